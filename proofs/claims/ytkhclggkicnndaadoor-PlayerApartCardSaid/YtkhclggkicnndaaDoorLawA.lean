/- Notes, signs and calls compared, and the stable sort of notes, as runs of the value machine. -/
import Derived.Test.YtkhclggkicnndaaDoorEnv
import Derived.Test.YtkhclggkicnndaaDoorVmE
import Derived.KernelRfl
import Derived.Test.YtkhclggkicnndaaDoorWords
set_option maxRecDepth 100000
open Go Go.Proofs Go.IntKind
namespace Vm.S14
variable {R : Type} (J : List Item → St → Option R) (kk : V → List Ob → Option R)
noncomputable abbrev f16cuts : Cuts := look [(4, [0, 1, 5])]
noncomputable abbrev f16t4 : List Item := itemsAt (fb Tryd.f16).2 4
def f16s0 (l m : List Sg) (n1 : Int) : St := { fr := [(0, V.sl rSig l), (1, V.sl rSig m), (5, V.int i64 n1)], hp := [], nx := 0 }
theorem f16_go (l m : List Sg) :
 vseg (E 8) f16cuts 0 J (vend (E 8) 0 (fb Tryd.f16).1.results.toList false kk) 100000 true [.code (fb Tryd.f16).2] (start ([V.sl rSig l, V.sl rSig m]) ([])) =
 (bif !decide ((↑l.length : Int) = (↑m.length : Int)) then
 kk (V.bool false) ([])
 else J f16t4 (f16s0 l m (0 : Int))) := by kernel_rfl
theorem f16_0 (l m : List Sg) (n1 : Int) :
 vseg (E 8) f16cuts 0 J (vend (E 8) 0 (fb Tryd.f16).1.results.toList false kk) 100000 true f16t4 (f16s0 l m n1) =
 (bif decide (n1 < (↑l.length : Int)) then
 (match idx l n1 with
 | some y2 => (match idx m n1 with
 | some y3 => (bif !(decide (y2.fst = y3.fst) && (y2.snd.fst == y3.snd.fst && (decide (y2.snd.snd.fst = y3.snd.snd.fst) && (decide (y2.snd.snd.snd.fst = y3.snd.snd.snd.fst) && decide (y2.snd.snd.snd.snd = y3.snd.snd.snd.snd))))) then
 kk (V.bool false) ([])
 else J f16t4 (f16s0 l m (i64.wrap (n1 + 1))))
 | none => none)
 | none => none)
 else kk (V.bool true) ([])) := by kernel_rfl
noncomputable abbrev f18cuts : Cuts := look [(4, [0, 1, 5])]
noncomputable abbrev f18t4 : List Item := itemsAt (fb Tryd.f18).2 4
def f18s0 (l m : List (Int × Int)) (n1 : Int) : St := { fr := [(0, V.sl rK2 l), (1, V.sl rK2 m), (5, V.int i64 n1)], hp := [], nx := 0 }
theorem f18_go (l m : List (Int × Int)) :
 vseg (E 8) f18cuts 0 J (vend (E 8) 0 (fb Tryd.f18).1.results.toList false kk) 100000 true [.code (fb Tryd.f18).2] (start ([V.sl rK2 l, V.sl rK2 m]) ([])) =
 (bif !decide ((↑l.length : Int) = (↑m.length : Int)) then
 kk (V.bool false) ([])
 else J f18t4 (f18s0 l m (0 : Int))) := by kernel_rfl
theorem f18_0 (l m : List (Int × Int)) (n1 : Int) :
 vseg (E 8) f18cuts 0 J (vend (E 8) 0 (fb Tryd.f18).1.results.toList false kk) 100000 true f18t4 (f18s0 l m n1) =
 (bif decide (n1 < (↑l.length : Int)) then
 (match idx l n1 with
 | some y2 => (match idx m n1 with
 | some y3 => (bif !(decide (y2.fst = y3.fst) && decide (y2.snd = y3.snd)) then
 kk (V.bool false) ([])
 else J f18t4 (f18s0 l m (i64.wrap (n1 + 1))))
 | none => none)
 | none => none)
 else kk (V.bool true) ([])) := by kernel_rfl
noncomputable abbrev f25cuts : Cuts := look [(2, [0, 1, 2, 3, 9])]
noncomputable abbrev f25t2 : List Item := itemsAt (fb Tryd.f25).2 2
def f25s0 (l : List Sg) (a b n1 n2 : Int) : St := { fr := [(0, V.sl rSig l), (1, V.int i64 a), (2, V.int i64 b), (3, V.int i64 n1), (9, V.int i64 n2)], hp := [], nx := 0 }
theorem f25_go (l : List Sg) (a b n : Int) :
 vseg (E 8) f25cuts 0 J (vend (E 8) 0 (fb Tryd.f25).1.results.toList false kk) 100000 true [.code (fb Tryd.f25).2] (start ([V.sl rSig l, V.int i64 a, V.int i64 b, V.int i64 n]) ([])) =
 J f25t2 (f25s0 l a b n (0 : Int)) := by kernel_rfl
theorem f25_0 (l : List Sg) (a b n1 n2 : Int) :
 vseg (E 8) f25cuts 0 J (vend (E 8) 0 (fb Tryd.f25).1.results.toList false kk) 100000 true f25t2 (f25s0 l a b n1 n2) =
 (bif decide (n2 < (↑l.length : Int)) then
 (match idx l n2 with
 | some y3 => (bif !decide (y3.snd.snd.fst = a) then
 J f25t2 (f25s0 l a b n1 (i64.wrap (n2 + 1)))
 else (match idx l n2 with
 | some y4 => (bif !decide (y4.snd.snd.snd.fst = b) then
 J f25t2 (f25s0 l a b n1 (i64.wrap (n2 + 1)))
 else (match idx l n2 with
 | some y5 => (bif y5.snd.fst then
 (bif decide (i64.wrap (n1 + 1) < 0) then
 kk (V.int i64 (Int.negSucc 999)) ([])
 else (bif decide ((1 : Int) < i64.wrap (n1 + 1)) then
 kk (V.int i64 (Int.negSucc 999)) ([])
 else J f25t2 (f25s0 l a b (i64.wrap (n1 + 1)) (i64.wrap (n2 + 1)))))
 else (bif decide (i64.wrap (n1 - 1) < 0) then
 kk (V.int i64 (Int.negSucc 999)) ([])
 else (bif decide ((1 : Int) < i64.wrap (n1 - 1)) then
 kk (V.int i64 (Int.negSucc 999)) ([])
 else J f25t2 (f25s0 l a b (i64.wrap (n1 - 1)) (i64.wrap (n2 + 1))))))
 | none => none))
 | none => none))
 | none => none)
 else kk (V.int i64 n1) ([])) := by kernel_rfl
noncomputable abbrev f23cuts : Cuts := look [(3, [0, 3, 4])]
noncomputable abbrev f23t3 : List Item := itemsAt (fb Tryd.f23).2 3
def f23s0 (l : List Pt) (n1 : Int) : St := { fr := [(0, V.sl rCall l), (3, V.nilsl), (4, V.int i64 n1)], hp := [], nx := 0 }
def f23s1 (l : List Pt) (n3 : Int) (l4 : List Pt) : St := { fr := [(0, V.sl rCall l), (3, V.own 0), (4, V.int i64 n3)], hp := [(0, Ob.arr rCall l4 false)], nx := 1 }
theorem f23_go (l : List Pt) :
 vseg (E 8) f23cuts 0 J (vend (E 8) 0 (fb Tryd.f23).1.results.toList false kk) 100000 true [.code (fb Tryd.f23).2] (start ([V.sl rCall l]) ([])) =
 J f23t3 (f23s0 l (0 : Int)) := by kernel_rfl
theorem f23_0 (l : List Pt) (n1 : Int) :
 vseg (E 8) f23cuts 0 J (vend (E 8) 0 (fb Tryd.f23).1.results.toList false kk) 100000 true f23t3 (f23s0 l n1) =
 (bif decide (n1 < (↑l.length : Int)) then
 (bif decide (n1 < 12) then
 (match idx l n1 with
 | some y2 => (bif decide (y2.fst < 0) then
 (bif decide ((1000000 : Int) < y2.snd.fst) then
 (bif decide (y2.fst = 4) then
 (bif decide ((0 : Int) < y2.snd.snd) then
 (bif decide (i64.wrap (y2.snd.snd - i64.wrap ((1000001 : Int) + Int.tmod y2.snd.fst (2 : Int))) < 5000) then
 J f23t3 (f23s1 l (i64.wrap (n1 + 1)) ([(y2.fst, i64.wrap ((1000001 : Int) + Int.tmod y2.snd.fst (2 : Int)), i64.wrap ((if (0 : Int) > i64.wrap ((1000001 : Int) + Int.tmod y2.snd.fst (2 : Int)) then (0 : Int) else i64.wrap ((1000001 : Int) + Int.tmod y2.snd.fst (2 : Int))) + 5000))]))
 else J f23t3 (f23s1 l (i64.wrap (n1 + 1)) ([(y2.fst, i64.wrap ((1000001 : Int) + Int.tmod y2.snd.fst (2 : Int)), y2.snd.snd)])))
 else J f23t3 (f23s1 l (i64.wrap (n1 + 1)) ([(y2.fst, i64.wrap ((1000001 : Int) + Int.tmod y2.snd.fst (2 : Int)), y2.snd.snd)])))
 else J f23t3 (f23s1 l (i64.wrap (n1 + 1)) ([(y2.fst, i64.wrap ((1000001 : Int) + Int.tmod y2.snd.fst (2 : Int)), y2.snd.snd)])))
 else (bif decide (y2.fst = 4) then
 (bif decide ((0 : Int) < y2.snd.snd) then
 (bif decide (i64.wrap (y2.snd.snd - y2.snd.fst) < 5000) then
 J f23t3 (f23s1 l (i64.wrap (n1 + 1)) ([(y2.fst, y2.snd.fst, i64.wrap ((if (0 : Int) > y2.snd.fst then (0 : Int) else y2.snd.fst) + 5000))]))
 else J f23t3 (f23s1 l (i64.wrap (n1 + 1)) ([y2])))
 else J f23t3 (f23s1 l (i64.wrap (n1 + 1)) ([y2])))
 else J f23t3 (f23s1 l (i64.wrap (n1 + 1)) ([y2]))))
 else (bif decide ((4 : Int) < y2.fst) then
 (bif decide ((1000000 : Int) < y2.snd.fst) then
 (bif decide (y2.fst = 4) then
 (bif decide ((0 : Int) < y2.snd.snd) then
 (bif decide (i64.wrap (y2.snd.snd - i64.wrap ((1000001 : Int) + Int.tmod y2.snd.fst (2 : Int))) < 5000) then
 J f23t3 (f23s1 l (i64.wrap (n1 + 1)) ([(y2.fst, i64.wrap ((1000001 : Int) + Int.tmod y2.snd.fst (2 : Int)), i64.wrap ((if (0 : Int) > i64.wrap ((1000001 : Int) + Int.tmod y2.snd.fst (2 : Int)) then (0 : Int) else i64.wrap ((1000001 : Int) + Int.tmod y2.snd.fst (2 : Int))) + 5000))]))
 else J f23t3 (f23s1 l (i64.wrap (n1 + 1)) ([(y2.fst, i64.wrap ((1000001 : Int) + Int.tmod y2.snd.fst (2 : Int)), y2.snd.snd)])))
 else J f23t3 (f23s1 l (i64.wrap (n1 + 1)) ([(y2.fst, i64.wrap ((1000001 : Int) + Int.tmod y2.snd.fst (2 : Int)), y2.snd.snd)])))
 else J f23t3 (f23s1 l (i64.wrap (n1 + 1)) ([(y2.fst, i64.wrap ((1000001 : Int) + Int.tmod y2.snd.fst (2 : Int)), y2.snd.snd)])))
 else (bif decide (y2.fst = 4) then
 (bif decide ((0 : Int) < y2.snd.snd) then
 (bif decide (i64.wrap (y2.snd.snd - y2.snd.fst) < 5000) then
 J f23t3 (f23s1 l (i64.wrap (n1 + 1)) ([(y2.fst, y2.snd.fst, i64.wrap ((if (0 : Int) > y2.snd.fst then (0 : Int) else y2.snd.fst) + 5000))]))
 else J f23t3 (f23s1 l (i64.wrap (n1 + 1)) ([y2])))
 else J f23t3 (f23s1 l (i64.wrap (n1 + 1)) ([y2])))
 else J f23t3 (f23s1 l (i64.wrap (n1 + 1)) ([y2]))))
 else (bif decide (y2.fst = 4) then
 (bif decide ((0 : Int) < y2.snd.snd) then
 (bif decide (i64.wrap (y2.snd.snd - y2.snd.fst) < 5000) then
 J f23t3 (f23s1 l (i64.wrap (n1 + 1)) ([(y2.fst, y2.snd.fst, i64.wrap ((if (0 : Int) > y2.snd.fst then (0 : Int) else y2.snd.fst) + 5000))]))
 else J f23t3 (f23s1 l (i64.wrap (n1 + 1)) ([y2])))
 else J f23t3 (f23s1 l (i64.wrap (n1 + 1)) ([y2])))
 else J f23t3 (f23s1 l (i64.wrap (n1 + 1)) ([y2])))))
 | none => none)
 else kk (V.nilsl) ([]))
 else kk (V.nilsl) ([])) := by kernel_rfl
theorem f23_1 (l : List Pt) (n3 : Int) (l4 : List Pt) :
 vseg (E 8) f23cuts 0 J (vend (E 8) 0 (fb Tryd.f23).1.results.toList false kk) 100000 true f23t3 (f23s1 l n3 l4) =
 (bif decide (n3 < (↑l.length : Int)) then
 (bif decide (n3 < 12) then
 (match idx l n3 with
 | some y5 => (bif decide (y5.fst < 0) then
 (bif decide ((1000000 : Int) < y5.snd.fst) then
 (bif decide (y5.fst = 4) then
 (bif decide ((0 : Int) < y5.snd.snd) then
 (bif decide (i64.wrap (y5.snd.snd - i64.wrap ((1000001 : Int) + Int.tmod y5.snd.fst (2 : Int))) < 5000) then
 (bif decide ((l4.length + 1) * 24 ≤ bytesMost) then
 J f23t3 (f23s1 l (i64.wrap (n3 + 1)) (l4 ++ [(y5.fst, i64.wrap ((1000001 : Int) + Int.tmod y5.snd.fst (2 : Int)), i64.wrap ((if (0 : Int) > i64.wrap ((1000001 : Int) + Int.tmod y5.snd.fst (2 : Int)) then (0 : Int) else i64.wrap ((1000001 : Int) + Int.tmod y5.snd.fst (2 : Int))) + 5000))]))
 else none)
 else (bif decide ((l4.length + 1) * 24 ≤ bytesMost) then
 J f23t3 (f23s1 l (i64.wrap (n3 + 1)) (l4 ++ [(y5.fst, i64.wrap ((1000001 : Int) + Int.tmod y5.snd.fst (2 : Int)), y5.snd.snd)]))
 else none))
 else (bif decide ((l4.length + 1) * 24 ≤ bytesMost) then
 J f23t3 (f23s1 l (i64.wrap (n3 + 1)) (l4 ++ [(y5.fst, i64.wrap ((1000001 : Int) + Int.tmod y5.snd.fst (2 : Int)), y5.snd.snd)]))
 else none))
 else (bif decide ((l4.length + 1) * 24 ≤ bytesMost) then
 J f23t3 (f23s1 l (i64.wrap (n3 + 1)) (l4 ++ [(y5.fst, i64.wrap ((1000001 : Int) + Int.tmod y5.snd.fst (2 : Int)), y5.snd.snd)]))
 else none))
 else (bif decide (y5.fst = 4) then
 (bif decide ((0 : Int) < y5.snd.snd) then
 (bif decide (i64.wrap (y5.snd.snd - y5.snd.fst) < 5000) then
 (bif decide ((l4.length + 1) * 24 ≤ bytesMost) then
 J f23t3 (f23s1 l (i64.wrap (n3 + 1)) (l4 ++ [(y5.fst, y5.snd.fst, i64.wrap ((if (0 : Int) > y5.snd.fst then (0 : Int) else y5.snd.fst) + 5000))]))
 else none)
 else (bif decide ((l4.length + 1) * 24 ≤ bytesMost) then
 J f23t3 (f23s1 l (i64.wrap (n3 + 1)) (l4 ++ [y5]))
 else none))
 else (bif decide ((l4.length + 1) * 24 ≤ bytesMost) then
 J f23t3 (f23s1 l (i64.wrap (n3 + 1)) (l4 ++ [y5]))
 else none))
 else (bif decide ((l4.length + 1) * 24 ≤ bytesMost) then
 J f23t3 (f23s1 l (i64.wrap (n3 + 1)) (l4 ++ [y5]))
 else none)))
 else (bif decide ((4 : Int) < y5.fst) then
 (bif decide ((1000000 : Int) < y5.snd.fst) then
 (bif decide (y5.fst = 4) then
 (bif decide ((0 : Int) < y5.snd.snd) then
 (bif decide (i64.wrap (y5.snd.snd - i64.wrap ((1000001 : Int) + Int.tmod y5.snd.fst (2 : Int))) < 5000) then
 (bif decide ((l4.length + 1) * 24 ≤ bytesMost) then
 J f23t3 (f23s1 l (i64.wrap (n3 + 1)) (l4 ++ [(y5.fst, i64.wrap ((1000001 : Int) + Int.tmod y5.snd.fst (2 : Int)), i64.wrap ((if (0 : Int) > i64.wrap ((1000001 : Int) + Int.tmod y5.snd.fst (2 : Int)) then (0 : Int) else i64.wrap ((1000001 : Int) + Int.tmod y5.snd.fst (2 : Int))) + 5000))]))
 else none)
 else (bif decide ((l4.length + 1) * 24 ≤ bytesMost) then
 J f23t3 (f23s1 l (i64.wrap (n3 + 1)) (l4 ++ [(y5.fst, i64.wrap ((1000001 : Int) + Int.tmod y5.snd.fst (2 : Int)), y5.snd.snd)]))
 else none))
 else (bif decide ((l4.length + 1) * 24 ≤ bytesMost) then
 J f23t3 (f23s1 l (i64.wrap (n3 + 1)) (l4 ++ [(y5.fst, i64.wrap ((1000001 : Int) + Int.tmod y5.snd.fst (2 : Int)), y5.snd.snd)]))
 else none))
 else (bif decide ((l4.length + 1) * 24 ≤ bytesMost) then
 J f23t3 (f23s1 l (i64.wrap (n3 + 1)) (l4 ++ [(y5.fst, i64.wrap ((1000001 : Int) + Int.tmod y5.snd.fst (2 : Int)), y5.snd.snd)]))
 else none))
 else (bif decide (y5.fst = 4) then
 (bif decide ((0 : Int) < y5.snd.snd) then
 (bif decide (i64.wrap (y5.snd.snd - y5.snd.fst) < 5000) then
 (bif decide ((l4.length + 1) * 24 ≤ bytesMost) then
 J f23t3 (f23s1 l (i64.wrap (n3 + 1)) (l4 ++ [(y5.fst, y5.snd.fst, i64.wrap ((if (0 : Int) > y5.snd.fst then (0 : Int) else y5.snd.fst) + 5000))]))
 else none)
 else (bif decide ((l4.length + 1) * 24 ≤ bytesMost) then
 J f23t3 (f23s1 l (i64.wrap (n3 + 1)) (l4 ++ [y5]))
 else none))
 else (bif decide ((l4.length + 1) * 24 ≤ bytesMost) then
 J f23t3 (f23s1 l (i64.wrap (n3 + 1)) (l4 ++ [y5]))
 else none))
 else (bif decide ((l4.length + 1) * 24 ≤ bytesMost) then
 J f23t3 (f23s1 l (i64.wrap (n3 + 1)) (l4 ++ [y5]))
 else none)))
 else (bif decide (y5.fst = 4) then
 (bif decide ((0 : Int) < y5.snd.snd) then
 (bif decide (i64.wrap (y5.snd.snd - y5.snd.fst) < 5000) then
 (bif decide ((l4.length + 1) * 24 ≤ bytesMost) then
 J f23t3 (f23s1 l (i64.wrap (n3 + 1)) (l4 ++ [(y5.fst, y5.snd.fst, i64.wrap ((if (0 : Int) > y5.snd.fst then (0 : Int) else y5.snd.fst) + 5000))]))
 else none)
 else (bif decide ((l4.length + 1) * 24 ≤ bytesMost) then
 J f23t3 (f23s1 l (i64.wrap (n3 + 1)) (l4 ++ [y5]))
 else none))
 else (bif decide ((l4.length + 1) * 24 ≤ bytesMost) then
 J f23t3 (f23s1 l (i64.wrap (n3 + 1)) (l4 ++ [y5]))
 else none))
 else (bif decide ((l4.length + 1) * 24 ≤ bytesMost) then
 J f23t3 (f23s1 l (i64.wrap (n3 + 1)) (l4 ++ [y5]))
 else none))))
 | none => none)
 else kk (V.sl rCall l4) ([]))
 else kk (V.sl rCall l4) ([])) := by kernel_rfl
noncomputable abbrev f42cuts : Cuts := look [(2, [0, 1, 7, 8])]
noncomputable abbrev f42t2 : List Item := itemsAt (fb Tryd.f42).2 2
def f42s0 (l : List Nt) (n1 : Int) : St := { fr := [(0, V.sl rNote l), (1, V.fn 28 [] []), (7, V.int i64 (↑l.length : Int)), (8, V.int i64 n1)], hp := [], nx := 0 }
theorem f42_go (l : List Nt) :
 vseg (E 8) f42cuts 0 J (vend (E 8) 0 (fb Tryd.f42).1.results.toList false kk) 100000 true [.code (fb Tryd.f42).2] (start ([V.sl rNote l, V.fn (28 : Nat) [] []]) ([])) =
 J f42t2 (f42s0 l (0 : Int)) := by kernel_rfl
theorem f42_0 (l : List Nt) (n1 : Int) :
 vseg (E 8) f42cuts 0 J (vend (E 8) 0 (fb Tryd.f42).1.results.toList false kk) 100000 true f42t2 (f42s0 l n1) =
 (bif decide (n1 < (↑l.length : Int)) then
 (match idx l n1 with
 | some y2 => (bif decide ((0 : Int) ≤ y2.snd.fst) then
 (bif decide (y2.snd.fst ≤ 15) then
 (bif decide ((0 : Int) ≤ y2.snd.snd.fst) then
 (bif decide (y2.snd.snd.fst ≤ 127) then
 (bif decide ((1 : Int) ≤ y2.snd.snd.snd.fst) then
 (bif decide (y2.snd.snd.snd.fst ≤ 127) then
 (bif decide ((0 : Int) ≤ y2.snd.snd.snd.snd.fst) then
 (bif decide (y2.snd.snd.snd.snd.fst ≤ 1000000000000000) then
 (bif decide ((0 : Int) ≤ y2.snd.snd.snd.snd.snd.fst) then
 (bif decide (y2.snd.snd.snd.snd.snd.fst ≤ 1000000000000000) then
 (bif !decide (y2.snd.snd.snd.snd.fst < y2.snd.snd.snd.snd.snd.fst) then
 kk (V.int i64 n1) ([])
 else J f42t2 (f42s0 l (i64.wrap (n1 + 1))))
 else kk (V.int i64 n1) ([]))
 else kk (V.int i64 n1) ([]))
 else kk (V.int i64 n1) ([]))
 else kk (V.int i64 n1) ([]))
 else kk (V.int i64 n1) ([]))
 else kk (V.int i64 n1) ([]))
 else kk (V.int i64 n1) ([]))
 else kk (V.int i64 n1) ([]))
 else kk (V.int i64 n1) ([]))
 else kk (V.int i64 n1) ([]))
 | none => none)
 else kk (V.int i64 ((-1 : Int))) ([])) := by kernel_rfl
noncomputable abbrev f51Fcuts : Cuts := look [(3, [1, 7, 10, 11, 12])]
noncomputable abbrev f51Ft3 : List Item := itemsAt (fb Tryd.f51).2 3
def f51Fs0 (t : Int) (l : List (Int × Int)) (n1 n2 n3 n4 n5 n6 n7 : Int) (b8 : Bool) (l9 : List Nt) (l10 : List Bool) (e11 : Cn) : St := { fr := [(1, V.int i64 t), (7, V.nilsl), (10, V.sl rK2 l), (11, V.int i64 (↑l.length : Int)), (12, V.int i64 n1)], hp := [(0, Ob.var [V.int i64 n2, V.int i64 n3, V.int i64 n4, V.int i64 n5, V.int i64 n6, V.int i64 n7, V.own 1, V.own 2, V.map 3, V.bool b8]), (1, Ob.arr rNote l9 false), (2, Ob.arr rB l10 false), (3, Ob.map rK2 true rI false e11)], nx := 4 }
def f51Fs1 (t : Int) (l : List (Int × Int)) (n13 n14 n15 n16 n17 n18 n19 : Int) (b20 : Bool) (l21 : List Nt) (l22 : List Bool) (e23 : Cn) (l24 : List Sg) : St := { fr := [(1, V.int i64 t), (7, V.own 4), (10, V.sl rK2 l), (11, V.int i64 (↑l.length : Int)), (12, V.int i64 n13)], hp := [(0, Ob.var [V.int i64 n14, V.int i64 n15, V.int i64 n16, V.int i64 n17, V.int i64 n18, V.int i64 n19, V.own 1, V.own 2, V.map 3, V.bool b20]), (1, Ob.arr rNote l21 false), (2, Ob.arr rB l22 false), (3, Ob.map rK2 true rI false e23), (4, Ob.arr rSig l24 false)], nx := 5 }
theorem f51F_go (p : PS) (t : Int) (l : List (Int × Int)) :
 vseg (E 8) f51Fcuts 4 J (vend (E 8) 4 (fb Tryd.f51).1.results.toList false kk) 100000 true [.code (fb Tryd.f51).2] (start ([V.ref (0 : Nat) (0 : Nat) (0 : Nat) (0 : Nat), V.int i64 t, V.sl rK2 l]) ([Ob.var [V.int i64 p.place, V.int i64 p.left, V.int i64 p.num, V.int i64 p.den, V.int i64 p.from_, V.int i64 p.to_, V.own (1 : Nat), V.own (2 : Nat), V.map (3 : Nat), V.bool p.on], Ob.arr rNote p.notes false, Ob.arr rB p.down false, Ob.map rK2 true rI false p.cnt])) =
 J f51Ft3 (f51Fs0 t l (0 : Int) (p.place) (p.left) (p.num) (p.den) (p.from_) (p.to_) (p.on) (p.notes) (p.down) (p.cnt)) := by kernel_rfl
theorem f51F_0 (t : Int) (l : List (Int × Int)) (n1 n2 n3 n4 n5 n6 n7 : Int) (b8 : Bool) (l9 : List Nt) (l10 : List Bool) (e11 : Cn) :
 vseg (E 8) f51Fcuts 4 J (vend (E 8) 4 (fb Tryd.f51).1.results.toList false kk) 100000 true f51Ft3 (f51Fs0 t l n1 n2 n3 n4 n5 n6 n7 b8 l9 l10 e11) =
 (bif decide (n1 < (↑l.length : Int)) then
 (match idx l n1 with
 | some y12 => J f51Ft3 (f51Fs1 t l (i64.wrap (n1 + 1)) n2 n3 n4 n5 n6 n7 b8 l9 l10 e11 ([(t, false, y12.fst, y12.snd, Int.ofNat (0 : Nat))]))
 | none => none)
 else kk (V.nilsl) ([Ob.var [V.int i64 n2, V.int i64 n3, V.int i64 n4, V.int i64 n5, V.int i64 n6, V.int i64 n7, V.own 1, V.own 2, V.map 3, V.bool b8], Ob.arr rNote l9 false, Ob.arr rB l10 false, Ob.map rK2 true rI false e11])) := by kernel_rfl
theorem f51F_1 (t : Int) (l : List (Int × Int)) (n13 n14 n15 n16 n17 n18 n19 : Int) (b20 : Bool) (l21 : List Nt) (l22 : List Bool) (e23 : Cn) (l24 : List Sg) :
 vseg (E 8) f51Fcuts 4 J (vend (E 8) 4 (fb Tryd.f51).1.results.toList false kk) 100000 true f51Ft3 (f51Fs1 t l n13 n14 n15 n16 n17 n18 n19 b20 l21 l22 e23 l24) =
 (bif decide (n13 < (↑l.length : Int)) then
 (match idx l n13 with
 | some y25 => (bif decide ((l24.length + 1) * 40 ≤ bytesMost) then
 J f51Ft3 (f51Fs1 t l (i64.wrap (n13 + 1)) n14 n15 n16 n17 n18 n19 b20 l21 l22 e23 (l24 ++ [(t, false, y25.fst, y25.snd, Int.ofNat (0 : Nat))]))
 else none)
 | none => none)
 else kk (V.sl rSig l24) ([Ob.var [V.int i64 n14, V.int i64 n15, V.int i64 n16, V.int i64 n17, V.int i64 n18, V.int i64 n19, V.own 1, V.own 2, V.map 3, V.bool b20], Ob.arr rNote l21 false, Ob.arr rB l22 false, Ob.map rK2 true rI false e23])) := by kernel_rfl
end Vm.S14
open Go Go.Proofs
namespace Vm.S14
theorem sg_eq (a b : Sg) : (decide (a.fst = b.fst) && (a.snd.fst == b.snd.fst && (decide (a.snd.snd.fst = b.snd.snd.fst) && (decide (a.snd.snd.snd.fst = b.snd.snd.snd.fst) && decide (a.snd.snd.snd.snd = b.snd.snd.snd.snd))))) = decide (a = b) := by
 obtain ⟨a1, a2, a3, a4, a5⟩ := a
 obtain ⟨b1, b2, b3, b4, b5⟩ := b
 rw [Bool.eq_iff_iff]
 simp [Prod.ext_iff]
theorem k2_eq (a b : Int × Int) : (decide (a.fst = b.fst) && decide (a.snd = b.snd)) = decide (a = b) := by
 obtain ⟨a1, a2⟩ := a
 obtain ⟨b1, b2⟩ := b
 rw [Bool.eq_iff_iff]
 simp [Prod.ext_iff]
theorem drop_eq_iff {α : Type} [DecidableEq α] {l m : List α} {i : Nat} (h1 : i < l.length) (h2 : i < m.length) : decide (l.drop i = m.drop i) = (decide (l[i] = m[i]) && decide (l.drop (i + 1) = m.drop (i + 1))) := by
 rw [Bool.eq_iff_iff]
 simp only [decide_eq_true_eq, Bool.and_eq_true]
 rw [List.drop_eq_getElem_cons h1, List.drop_eq_getElem_cons h2, List.cons.injEq]
theorem f16_loop {R : Type} (kk : V → List Ob → Option R) (l m : List Sg) (hb : l.length < 4611686018427387904) (hlm : l.length = m.length) : ∀ (d i : Nat), i + d = l.length →
  vrun (E 8) f16cuts 0 100000 (vend (E 8) 0 (fb Tryd.f16).1.results.toList false kk) (d + 1) f16t4 (f16s0 l m i) = kk (.bool (decide (l.drop i = m.drop i))) [] := by
 intro d
 induction d with
 | zero =>
   intro i hi
   rw [vrun_succ, f16_0, bif_neg (by exact decide_eq_false (by omega)), List.drop_eq_nil_of_le (by omega), List.drop_eq_nil_of_le (by omega)]; rfl
 | succ d ih =>
   intro i hi
   have h1 : i < l.length := by omega
   have h2 : i < m.length := by omega
   rw [vrun_succ, f16_0, bif_pos (by exact decide_eq_true (by omega)), idx_nat, idx_nat, List.getElem?_eq_getElem h1, List.getElem?_eq_getElem h2]
   dsimp only
   rw [sg_eq, drop_eq_iff h1 h2]
   cases h : decide (l[i] = m[i]) with
   | false => rfl
   | true => rw [Bool.not_true, cond_false, wrap_succ (by omega), ih (i + 1) (by omega), Bool.true_and]
theorem f16_run {R : Type} (kk : V → List Ob → Option R) (l m : List Sg) (hb : l.length < 4611686018427387904) :
  ∃ n, vrun (E 8) f16cuts 0 100000 (vend (E 8) 0 (fb Tryd.f16).1.results.toList false kk) n [.code (fb Tryd.f16).2] (start [enc false (.cons (.sl rSig) .nil) l, enc false (.cons (.sl rSig) .nil) m] []) = kk (.bool (decide (l = m))) [] := by
 refine ⟨l.length + 1 + 1, ?_⟩
 rw [vrun_succ]
 refine (f16_go _ kk l m).trans ?_
 by_cases hlm : l.length = m.length
 ·rw [bif_neg (by simp [hlm]), show (0 : Int) = ((0 : Nat) : Int) from rfl, f16_loop kk l m hb hlm l.length 0 (by omega)]; rfl
 ·rw [bif_pos (by simpa using (by omega : ¬ (l.length : Int) = m.length))]
  rw [decide_eq_false (fun e => hlm (by rw [e]))]
theorem f18_loop {R : Type} (kk : V → List Ob → Option R) (l m : List (Int × Int)) (hb : l.length < 4611686018427387904) (hlm : l.length = m.length) : ∀ (d i : Nat), i + d = l.length →
  vrun (E 8) f18cuts 0 100000 (vend (E 8) 0 (fb Tryd.f18).1.results.toList false kk) (d + 1) f18t4 (f18s0 l m i) = kk (.bool (decide (l.drop i = m.drop i))) [] := by
 intro d
 induction d with
 | zero =>
   intro i hi
   rw [vrun_succ, f18_0, bif_neg (by exact decide_eq_false (by omega)), List.drop_eq_nil_of_le (by omega), List.drop_eq_nil_of_le (by omega)]; rfl
 | succ d ih =>
   intro i hi
   have h1 : i < l.length := by omega
   have h2 : i < m.length := by omega
   rw [vrun_succ, f18_0, bif_pos (by exact decide_eq_true (by omega)), idx_nat, idx_nat, List.getElem?_eq_getElem h1, List.getElem?_eq_getElem h2]
   dsimp only
   rw [k2_eq, drop_eq_iff h1 h2]
   cases h : decide (l[i] = m[i]) with
   | false => rfl
   | true => rw [Bool.not_true, cond_false, wrap_succ (by omega), ih (i + 1) (by omega), Bool.true_and]
theorem f18_run {R : Type} (kk : V → List Ob → Option R) (l m : List (Int × Int)) (hb : l.length < 4611686018427387904) :
  ∃ n, vrun (E 8) f18cuts 0 100000 (vend (E 8) 0 (fb Tryd.f18).1.results.toList false kk) n [.code (fb Tryd.f18).2] (start [enc false (.cons (.sl rK2) .nil) l, enc false (.cons (.sl rK2) .nil) m] []) = kk (.bool (decide (l = m))) [] := by
 refine ⟨l.length + 1 + 1, ?_⟩
 rw [vrun_succ]
 refine (f18_go _ kk l m).trans ?_
 by_cases hlm : l.length = m.length
 ·rw [bif_neg (by simp [hlm]), show (0 : Int) = ((0 : Nat) : Int) from rfl, f18_loop kk l m hb hlm l.length 0 (by omega)]; rfl
 ·rw [bif_pos (by simpa using (by omega : ¬ (l.length : Int) = m.length))]
  rw [decide_eq_false (fun e => hlm (by rw [e]))]
theorem f25_loop {R : Type} (kk : V → List Ob → Option R) (l : List Sg) (a b : Int) (hb : l.length < 4611686018427387904) : ∀ (d i : Nat) (n : Int), i + d = l.length → -1 ≤ n → n ≤ 1000 →
  vrun (E 8) f25cuts 0 100000 (vend (E 8) 0 (fb Tryd.f25).1.results.toList false kk) (d + 1) f25t2 (f25s0 l a b n i) = kk (.int .i64 (countedL a b (l.drop i) n)) [] := by
 intro d
 induction d with
 | zero =>
   intro i n hi _ _
   rw [vrun_succ, f25_0, bif_neg (by exact decide_eq_false (by omega)), List.drop_eq_nil_of_le (by omega)]; rfl
 | succ d ih =>
   intro i n hi hn hn'
   have h1 : i < l.length := by omega
   rw [vrun_succ, f25_0, bif_pos (by exact decide_eq_true (by omega)), idx_nat, List.getElem?_eq_getElem h1, List.drop_eq_getElem_cons h1]
   dsimp only [countedL]
   rw [wrap_succ (by omega)]
   by_cases e1 : (l[i]).2.2.1 = a
   ·rw [bif_neg (by simp [e1])]
    by_cases e2 : (l[i]).2.2.2.1 = b
    ·rw [bif_neg (by simp [e2]), if_pos ⟨e1, e2⟩]
     cases e3 : (l[i]).2.1 with
     | true =>
       simp only [cond_true]
       rw [show IntKind.wrap .i64 (n + 1) = n + 1 from wrap64 (by omega) (by omega)]
       by_cases h2 : n + 1 < 0
       ·rw [bif_pos (decide_eq_true h2), if_pos (.inl h2)]; rfl
       ·rw [bif_neg (decide_eq_false h2)]
        by_cases h3 : 1 < n + 1
        ·rw [bif_pos (decide_eq_true h3), if_pos (.inr h3)]; rfl
        ·rw [bif_neg (decide_eq_false h3), if_neg (by omega), ih (i + 1) (n + 1) (by omega) (by omega) (by omega)]
     | false =>
       simp only [cond_false]
       rw [show IntKind.wrap .i64 (n - 1) = n - 1 from wrap64 (by omega) (by omega)]
       by_cases h2 : n - 1 < 0
       ·rw [bif_pos (decide_eq_true h2), if_pos (.inl h2)]; rfl
       ·rw [bif_neg (decide_eq_false h2)]
        by_cases h3 : 1 < n - 1
        ·rw [bif_pos (decide_eq_true h3), if_pos (.inr h3)]; rfl
        ·rw [bif_neg (decide_eq_false h3), if_neg (by omega), ih (i + 1) (n - 1) (by omega) (by omega) (by omega)]
    ·rw [bif_pos (by simp [e2]), if_neg (fun h => e2 h.2), ih (i + 1) n (by omega) hn hn']
   ·rw [bif_pos (by simp [e1]), if_neg (fun h => e1 h.1), ih (i + 1) n (by omega) hn hn']
theorem f25_run {R : Type} (kk : V → List Ob → Option R) (l : List Sg) (a b n : Int) (hb : l.length < 4611686018427387904) (hn : -1 ≤ n) (hn' : n ≤ 1000) :
  ∃ N, vrun (E 8) f25cuts 0 100000 (vend (E 8) 0 (fb Tryd.f25).1.results.toList false kk) N [.code (fb Tryd.f25).2] (start [.sl rSig l, .int .i64 a, .int .i64 b, .int .i64 n] []) = kk (.int .i64 (countedL a b l n)) [] := by
 refine ⟨l.length + 1 + 1, ?_⟩
 rw [vrun_succ]
 refine (f25_go _ kk l a b n).trans ?_
 rw [show (0 : Int) = ((0 : Nat) : Int) from rfl, f25_loop kk l a b hb l.length 0 n (by omega) hn hn']; rfl
end Vm.S14
namespace Vm
theorem ContractM.val {P : Program} {gl : Gl} {m f : Nat} {args : List V} {os os' : List Ob} {v v' : V} (h : ContractM P gl m f args os v os') (hv : ∀ (w : World) (A : ASet) (η : Nat → Option Nat) (c : Value), V.Rep w A η (obs os') v c → V.Rep w A η (obs os') v' c) (hi : v'.ids = []) : ContractM P gl m f args os v' os' :=
 fun w A η ok cs hrep hdom o a Q K hK => h w A η ok cs hrep hdom o a Q K fun c w' A' η' k1 k2 k3 _ => hK c w' A' η' k1 k2 (hv _ _ _ _ k3) (by simp [hi])
def slN (r : Ks) (xs : List r.Ty) : V := match xs with
 | [] => .nilsl
 | x :: l => .sl r (x :: l)
theorem slN_rep {r : Ks} {xs : List r.Ty} {w : World} {A : ASet} {η : Nat → Option Nat} {h : Nat → Option Ob} {c : Value} (hr : V.Rep w A η h (slN r xs) c) : V.Rep w A η h (.sl r xs) c := by
 cases xs with
 | nil => exact nil_sl hr
 | cons x l => exact hr
end Vm
namespace Vm.S14
theorem tm2 (a : Int) : -1 ≤ Int.tmod a 2 ∧ Int.tmod a 2 ≤ 1 := by
 have := Int.emod_emod_of_dvd a (show (2 : Int) ∣ 2 from ⟨1, rfl⟩)
 rcases Int.lt_or_le a 0 with h | h
 ·have e : Int.tmod a 2 = -(Int.tmod (-a) 2) := by rw [Int.neg_tmod]; simp
  have h2 := Int.tmod_nonneg 2 (show (0 : Int) ≤ -a by omega)
  have h3 := Int.tmod_lt_of_pos (-a) (show (0 : Int) < 2 by omega)
  omega
 ·have h2 := Int.tmod_nonneg 2 h
  have h3 := Int.tmod_lt_of_pos a (show (0 : Int) < 2 by omega)
  omega
theorem wrap_tm (a : Int) : IntKind.wrap .i64 (1000001 + Int.tmod a 2) = 1000001 + Int.tmod a 2 := by
 have := tm2 a
 exact wrap64 (by omega) (by omega)
theorem max_if (a : Int) : (if (0 : Int) > a then (0 : Int) else a) = max 0 a := by
 split <;> omega
theorem call_tree {R : Type} (F : Int × Int × Int → Option R) (y : Int × Int × Int) :
  (bif decide (y.fst < 0) then
    (bif decide (1000000 < y.snd.fst) then
      (bif decide (y.fst = 4) then
        (bif decide (0 < y.snd.snd) then
          (bif decide (IntKind.wrap .i64 (y.snd.snd - (1000001 + Int.tmod y.snd.fst 2)) < 5000) then F (y.fst, 1000001 + Int.tmod y.snd.fst 2, IntKind.wrap .i64 (max 0 (1000001 + Int.tmod y.snd.fst 2) + 5000))
          else F (y.fst, 1000001 + Int.tmod y.snd.fst 2, y.snd.snd))
        else F (y.fst, 1000001 + Int.tmod y.snd.fst 2, y.snd.snd))
      else F (y.fst, 1000001 + Int.tmod y.snd.fst 2, y.snd.snd))
    else (bif decide (y.fst = 4) then
      (bif decide (0 < y.snd.snd) then
        (bif decide (IntKind.wrap .i64 (y.snd.snd - y.snd.fst) < 5000) then F (y.fst, y.snd.fst, IntKind.wrap .i64 (max 0 y.snd.fst + 5000))
        else F y)
      else F y)
     else F y))
  else (bif decide (4 < y.fst) then
    (bif decide (1000000 < y.snd.fst) then
      (bif decide (y.fst = 4) then
        (bif decide (0 < y.snd.snd) then
          (bif decide (IntKind.wrap .i64 (y.snd.snd - (1000001 + Int.tmod y.snd.fst 2)) < 5000) then F (y.fst, 1000001 + Int.tmod y.snd.fst 2, IntKind.wrap .i64 (max 0 (1000001 + Int.tmod y.snd.fst 2) + 5000))
          else F (y.fst, 1000001 + Int.tmod y.snd.fst 2, y.snd.snd))
        else F (y.fst, 1000001 + Int.tmod y.snd.fst 2, y.snd.snd))
      else F (y.fst, 1000001 + Int.tmod y.snd.fst 2, y.snd.snd))
    else (bif decide (y.fst = 4) then
      (bif decide (0 < y.snd.snd) then
        (bif decide (IntKind.wrap .i64 (y.snd.snd - y.snd.fst) < 5000) then F (y.fst, y.snd.fst, IntKind.wrap .i64 (max 0 y.snd.fst + 5000))
        else F y)
      else F y)
     else F y))
   else (bif decide (y.fst = 4) then
     (bif decide (0 < y.snd.snd) then
       (bif decide (IntKind.wrap .i64 (y.snd.snd - y.snd.fst) < 5000) then F (y.fst, y.snd.fst, IntKind.wrap .i64 (max 0 y.snd.fst + 5000))
       else F y)
     else F y)
    else F y))) = F (callOk y) := by
 obtain ⟨a, b, c⟩ := y
 simp only [callOk]
 generalize decide (a < 0) = c1
 generalize decide (4 < a) = c2
 generalize decide (1000000 < b) = c3
 generalize decide (a = 4) = c4
 generalize decide (0 < c) = c5
 cases c1 <;> cases c2 <;> cases c3 <;> cases c4 <;> cases c5 <;> simp only [cond_true, cond_false, Bool.or_true, Bool.or_false, Bool.true_or, Bool.and_true, Bool.and_false, Bool.true_and, Bool.false_and] <;> (generalize decide (_ < (5000 : Int)) = q; cases q <;> rfl)
theorem f23_loop {R : Type} (kk : V → List Ob → Option R) (l : List (Int × Int × Int)) (hb : l.length = l.length) : ∀ (d i : Nat) (acc : List (Int × Int × Int)), i + d = min l.length 12 → acc ≠ [] → acc.length ≤ 12 - d →
  vrun (E 8) f23cuts 0 100000 (vend (E 8) 0 (fb Tryd.f23).1.results.toList false kk) (d + 1) f23t3 (f23s1 l i acc) = kk (.sl rCall (acc ++ ((l.drop i).take d).map callOk)) [] := by
 intro d
 induction d with
 | zero =>
   intro i acc hi hne _
   rw [vrun_succ, f23_1]
   simp only [List.take_zero, List.map_nil, List.append_nil]
   by_cases h : i < l.length
   ·rw [bif_pos (by exact decide_eq_true (by omega)), bif_neg (by exact decide_eq_false (by omega))]
   ·rw [bif_neg (by exact decide_eq_false (by omega))]
 | succ d ih =>
   intro i acc hi hne hal
   have h1 : i < l.length := by omega
   rw [vrun_succ, f23_1, bif_pos (by exact decide_eq_true (by omega)), bif_pos (by exact decide_eq_true (by omega)), idx_nat, List.getElem?_eq_getElem h1, List.drop_eq_getElem_cons h1]
   simp only [wrap_tm, wrap_succ (show i < 4611686018427387904 by omega), max_if, List.take_succ_cons, List.map_cons]
   have hlen : decide ((acc.length + 1) * 24 ≤ bytesMost) = true := decide_eq_true (by unfold bytesMost; omega)
   have e : ∀ y, acc ++ y :: ((l.drop (i + 1)).take d).map callOk = (acc ++ [y]) ++ ((l.drop (i + 1)).take d).map callOk := fun y => by simp
   rw [e, ← ih (i + 1) (acc ++ [callOk l[i]]) (by omega) (by simp) (by simp; omega)]
   simp only [hlen, condT]
   exact call_tree (fun z => vrun (E 8) f23cuts 0 100000 (vend (E 8) 0 (fb Tryd.f23).1.results.toList false kk) (d + 1) f23t3 (f23s1 l ((i + 1 : Nat) : Int) (acc ++ [z]))) l[i]
end Vm.S14
namespace Vm.S14
theorem f23_run {R : Type} (kk : V → List Ob → Option R) (l : List (Int × Int × Int)) (hb : l.length = l.length) :
  ∃ N, vrun (E 8) f23cuts 0 100000 (vend (E 8) 0 (fb Tryd.f23).1.results.toList false kk) N [.code (fb Tryd.f23).2] (start [enc false (.cons (.sl rCall) .nil) l] []) = kk (slN rCall (callsOk l)) [] := by
 match l, hb with
 | [], hb =>
   refine ⟨2, ?_⟩
   rw [vrun_succ]
   refine (f23_go _ kk []).trans ?_
   rw [vrun_succ, f23_0, bif_neg (by decide)]; rfl
 | x :: q, hb =>
   refine ⟨min (x :: q).length 12 + 1 + 1, ?_⟩
   have hl : min (x :: q).length 12 = (min (x :: q).length 12 - 1) + 1 := by simp; omega
   have e : callsOk (x :: q) = callOk x :: ((q.take (min (x :: q).length 12 - 1)).map callOk) := by
    simp only [callsOk, List.take_succ_cons, List.map_cons, List.length_cons]
    congr 2
    rw [List.take_eq_take_iff]
    omega
   rw [vrun_succ]
   refine (f23_go _ kk (x :: q)).trans ?_
   rw [hl, vrun_succ, f23_0, bif_pos (by exact decide_eq_true (by simp)), bif_pos (by decide), show idx (x :: q) (0 : Int) = some x from rfl, show IntKind.wrap .i64 ((0 : Int) + 1) = ((1 : Nat) : Int) by decide]
   simp only [wrap_tm, max_if]
   refine (call_tree (fun z => vrun (E 8) f23cuts 0 100000 (vend (E 8) 0 (fb Tryd.f23).1.results.toList false kk) (min (x :: q).length 12 - 1 + 1) f23t3 (f23s1 (x :: q) ((1 : Nat) : Int) [z])) x).trans ?_
   rw [f23_loop kk (x :: q) hb (min (x :: q).length 12 - 1) 1 [callOk x] (by simp; omega) (by simp) (by simp; omega), e]
   rfl
end Vm.S14
namespace Vm.S14
theorem f42_loop {R : Type} (kk : V → List Ob → Option R) (l : List Nt) (hb : l.length < 4611686018427387904) : ∀ (d i : Nat), i + d = l.length →
  vrun (E 8) f42cuts 0 100000 (vend (E 8) 0 (fb Tryd.f42).1.results.toList false kk) (d + 1) f42t2 (f42s0 l i) = kk (.int .i64 (badAt (l.drop i) i)) [] := by
 intro d
 induction d with
 | zero =>
   intro i hi
   rw [vrun_succ, f42_0, bif_neg (by exact decide_eq_false (by omega)), List.drop_eq_nil_of_le (by omega)]; rfl
 | succ d ih =>
   intro i hi
   have h1 : i < l.length := by omega
   rw [vrun_succ, f42_0, bif_pos (by exact decide_eq_true (by omega)), idx_nat, List.getElem?_eq_getElem h1, List.drop_eq_getElem_cons h1]
   dsimp only [badAt]
   rw [wrap_succ (by omega), ih (i + 1) (by omega)]
   have tree : ∀ (c1 c2 c3 c4 c5 c6 c7 c8 c9 c10 c11 : Bool) (A B : Option R), (bif c1 then bif c2 then bif c3 then bif c4 then bif c5 then bif c6 then bif c7 then bif c8 then bif c9 then bif c10 then bif !c11 then B else A else B else B else B else B else B else B else B else B else B else B) =
     bif c1 && (c2 && (c3 && (c4 && (c5 && (c6 && (c7 && (c8 && (c9 && (c10 && c11))))))))) then A else B := by
    intro c1 c2 c3 c4 c5 c6 c7 c8 c9 c10 c11 A B
    cases c1 <;> cases c2 <;> cases c3 <;> cases c4 <;> cases c5 <;> cases c6 <;> cases c7 <;> cases c8 <;> cases c9 <;> cases c10 <;> cases c11 <;> rfl
   refine (tree _ _ _ _ _ _ _ _ _ _ _ _ _).trans ?_
   show (bif Nt.right l[i] then _ else _) = _
   cases Nt.right l[i] with
   | true => rw [cond_true, if_pos rfl]; rfl
   | false => rw [cond_false, if_neg (by decide)]
theorem f42_run {R : Type} (kk : V → List Ob → Option R) (l : List Nt) (hb : l.length < 4611686018427387904) :
  ∃ N, vrun (E 8) f42cuts 0 100000 (vend (E 8) 0 (fb Tryd.f42).1.results.toList false kk) N [.code (fb Tryd.f42).2] (start [enc false (.cons (.sl rNote) .nil) l, .fn 28 [] []] []) = kk (.int .i64 (badAt l 0)) [] := by
 refine ⟨l.length + 1 + 1, ?_⟩
 rw [vrun_succ]
 refine (f42_go _ kk l).trans ?_
 exact f42_loop kk l hb l.length 0 (by omega)
theorem f51_loop {R : Type} (kk : V → List Ob → Option R) (p : PS) (t : Int) (l : List (Int × Int)) (hb : l.length < 1000000000) : ∀ (d i : Nat) (acc : List Sg), i + d = l.length → acc.length = i →
  vrun (E 8) f51Fcuts 4 100000 (vend (E 8) 4 (fb Tryd.f51).1.results.toList false kk) (d + 1) f51Ft3 (f51Fs1 t l i p.place p.left p.num p.den p.from_ p.to_ p.on p.notes p.down p.cnt acc) = kk (.sl rSig (acc ++ upsAt t (l.drop i))) p.obs := by
 intro d
 induction d with
 | zero =>
   intro i acc hi ha
   rw [vrun_succ, f51F_1, bif_neg (by exact decide_eq_false (by omega)), List.drop_eq_nil_of_le (by omega)]
   simp only [upsAt, List.map_nil, List.append_nil]
 | succ d ih =>
   intro i acc hi ha
   have h1 : i < l.length := by omega
   rw [vrun_succ, f51F_1, bif_pos (by exact decide_eq_true (by omega)), idx_nat, List.getElem?_eq_getElem h1, List.drop_eq_getElem_cons h1]
   dsimp only
   rw [bif_pos (by exact decide_eq_true (by unfold bytesMost; omega)), wrap_succ (by omega), ih (i + 1) _ (by omega) (by simp; omega)]
   simp only [upsAt, List.map_cons, List.append_assoc, List.singleton_append]
   rfl
theorem f51_run {R : Type} (kk : V → List Ob → Option R) (p : PS) (t : Int) (l : List (Int × Int)) (hb : l.length < 1000000000) :
  ∃ N, vrun (E 8) f51Fcuts 4 100000 (vend (E 8) 4 (fb Tryd.f51).1.results.toList false kk) N [.code (fb Tryd.f51).2] (start [.ref 0 0 0 0, .int .i64 t, .sl rK2 l] p.obs) = kk (slN rSig (upsAt t l)) p.obs := by
 match l, hb with
 | [], hb =>
   refine ⟨2, ?_⟩
   rw [vrun_succ]
   refine (f51F_go _ kk p t []).trans ?_
   rw [vrun_succ, f51F_0, bif_neg (by decide)]; rfl
 | x :: q, hb =>
   refine ⟨q.length + 1 + 1 + 1, ?_⟩
   rw [vrun_succ]
   refine (f51F_go _ kk p t (x :: q)).trans ?_
   rw [vrun_succ, f51F_0, bif_pos (by exact decide_eq_true (by simp)), show idx (x :: q) (0 : Int) = some x from rfl, show IntKind.wrap .i64 ((0 : Int) + 1) = ((1 : Nat) : Int) by decide]
   dsimp only
   rw [f51_loop kk p t (x :: q) hb q.length 1 _ (by simp; omega) rfl]
   rfl
end Vm.S14
open Go Go.Proofs
namespace Vm.S14
abbrev srSig : Ks := .cons (.sl rSig) .nil
abbrev srK2 : Ks := .cons (.sl rK2) .nil
abbrev srCall : Ks := .cons (.sl rCall) .nil
abbrev srNote : Ks := .cons (.sl rNote) .nil
noncomputable def f16e : Entry Tryd.prog gls := .two 16 false srSig false srSig (by intro h; cases h <;> rfl) (by intro h; cases h <;> rfl) (fun (x y : List Sg) => (decide (x.length < 4611686018427387904), .bool (decide (x = y)))) fun x y h => by
 obtain ⟨n, hn⟩ := f16_run (fun v os => some (v, os)) x y (of_decide_eq_true h)
 exact contract_run (fn := (fb Tryd.f16).1) (c := (fb Tryd.f16).2) mixed (ready 8) (glE 8) Tryd.func16 (by kernel_rfl) rfl rfl (by kernel_rfl) hn
noncomputable def f18e : Entry Tryd.prog gls := .two 18 false srK2 false srK2 (by intro h; cases h <;> rfl) (by intro h; cases h <;> rfl) (fun (x y : List (Int × Int)) => (decide (x.length < 4611686018427387904), .bool (decide (x = y)))) fun x y h => by
 obtain ⟨n, hn⟩ := f18_run (fun v os => some (v, os)) x y (of_decide_eq_true h)
 exact contract_run (fn := (fb Tryd.f18).1) (c := (fb Tryd.f18).2) mixed (ready 8) (glE 8) Tryd.func18 (by kernel_rfl) rfl rfl (by kernel_rfl) hn
noncomputable def f23e : Entry Tryd.prog gls := .one 23 false srCall (by intro h; cases h <;> rfl) (fun (x : List (Int × Int × Int)) => (true, .sl rCall (callsOk x))) fun x h => by
 obtain ⟨n, hn⟩ := f23_run (fun v os => some (v, os)) x rfl
 exact ContractM.val (contract_run (fn := (fb Tryd.f23).1) (c := (fb Tryd.f23).2) mixed (ready 8) (glE 8) Tryd.func23 (by kernel_rfl) rfl rfl (by kernel_rfl) hn) (fun _ _ _ _ => slN_rep) rfl
noncomputable def f42e : Entry Tryd.prog gls := .oneF 42 false srNote (by intro h; cases h <;> rfl) 28 (fun (x : List Nt) => (decide (x.length < 4611686018427387904), .int .i64 (badAt x 0))) fun x h => by
 obtain ⟨n, hn⟩ := f42_run (fun v os => some (v, os)) x (of_decide_eq_true h)
 exact contract_run (fn := (fb Tryd.f42).1) (c := (fb Tryd.f42).2) mixed (ready 8) (glE 8) Tryd.func42 (by kernel_rfl) rfl rfl (by kernel_rfl) hn
theorem rd_args {f : Nat} {r : Ks} {x : V} {l : List r.Ty} {rest : List V} {os os' : List Ob} {v : V} (hx : rd false (.cons (.sl r) .nil) x = some l) (hi : V.idsL rest = []) (hr : V.rootsL rest = []) (h : Contract Tryd.prog gls f (.sl r l :: rest) os v os') : Contract Tryd.prog gls f (x :: rest) os v os' := by
 refine h.args (fun w A η cs hrep => ?_) (by simp [V.idsL, V.ids, hi]) (by simp [rootsN, V.rootsL, V.roots, (rd_ids hx).2, hr])
 simp only [V.RepL] at hrep ⊢
 obtain ⟨c, cs', e, h1, h2⟩ := hrep
 exact ⟨c, cs', e, rd_rep (r := .cons (.sl r) .nil) hx (fun _ => rfl) h1, h2⟩
noncomputable def f25e : Entry Tryd.prog gls where
 f := 25
 g := fun args os => match args, os with
   | [x, .int .i64 a, .int .i64 b, .int .i64 n], [] => match rd false srSig x with
     | some l => some (decide (l.length < 4611686018427387904 ∧ -1 ≤ n ∧ n ≤ 1000), .int .i64 (countedL a b l n), [])
     | none => none
   | _, _ => none
 says := by
  intro args os c v os' h hc
  split at h
  ·split at h
   ·rename_i x a b n _ l hx
    cases h
    obtain ⟨h1, h2, h3⟩ := of_decide_eq_true hc
    obtain ⟨N, hN⟩ := f25_run (fun v os => some (v, os)) l a b n h1 h2 h3
    exact rd_args hx rfl rfl (contract_run (fn := (fb Tryd.f25).1) (c := (fb Tryd.f25).2) mixed (ready 8) (glE 8) Tryd.func25 (by kernel_rfl) rfl rfl (by kernel_rfl) hN)
   ·cases h
  ·cases h
theorem ps_contract {E₀ : Env} (hE : Ready Tryd.prog E₀) (hgl : E₀.gl = gls) {f : Nat} {fn : Func} {c : Code} (hf : Tryd.prog.funcs[f]? = some fn) (hb : fn.body = some c) {args : List V} {os os' : List Ob} {v : V} (hB : fnB fn c args.length = true) (hlt : f < 1000000000)
  {cuts : Cuts} (hrf : RfOk gls.rf fn.ntmps cuts c) {F n m : Nat} {own : Bool} (hv : vrun E₀ cuts m F (vend E₀ m fn.results.toList own fun v os => some (v, os)) n [.code c] (start args os) = some (v, os')) (hm : m ≤ os.length) :
  ContractM Tryd.prog gls m f args os v os' := by
 have := contractM_of (m := m) mixed hE hf hb hB hlt (by rw [hgl]; exact hrf) hv hm
 rwa [hgl] at this
noncomputable def f51e : Entry Tryd.prog gls where
 f := 51
 ob := true
 g := fun args os => match args with
   | [.ref 0 0 0 0, .int .i64 t, .sl r l] => match Ks.eqp r rK2, rdPS os with
     | some ⟨h⟩, some p => some (decide (l.length < 1000000000), .sl rSig (upsAt t (Ks.cast h l)), p.obs)
     | _, _ => none
   | _ => none
 says := by
  intro args os c v os' h hc
  split at h
  ·split at h
   ·rename_i t r l q1 q2 e p _ hp
    subst e
    cases h
    rw [rdPS_obs hp]
    obtain ⟨N, hN⟩ := f51_run (fun v os => some (v, os)) p t l (of_decide_eq_true hc)
    refine ⟨?_, rfl⟩
    exact ContractM.val (ps_contract (ready 8) (glE 8) (fn := (fb Tryd.f51).1) (c := (fb Tryd.f51).2) Tryd.func51 (by kernel_rfl) (by kernel_rfl) (by decide) (rfOk_no (by kernel_rfl)) hN (show 4 ≤ 4 by decide)) (fun _ _ _ _ => slN_rep) rfl
   ·cases h
  ·cases h
noncomputable def es1 : List (Entry Tryd.prog gls) := [f16e, f18e, f23e, f25e, f42e, f51e]
noncomputable def E1 (n : Nat) : Env := interp fns (look tys) gls mvs (tabOf es1) 100000 n
theorem ready1 (n : Nat) : Ready Tryd.prog (E1 n) := ready_of mixed fnsAll tysOk rfsOk n
theorem glE1 (n : Nat) : (E1 n).gl = gls := by cases n <;> rfl
end Vm.S14
open Go Go.Proofs Go.IntKind
namespace Vm.S14
variable {R : Type} (J : List Item → St → Option R) (kk : V → List Ob → Option R)
noncomputable abbrev f34cuts : Cuts := fun _ => none
noncomputable abbrev k34 {Q : Type} (k : V → List Ob → Option Q) := vend (E1 8) 0 (fb Tryd.f34).1.results.toList false k
theorem f34_go (x y : Int) :
 vseg (E1 8) f34cuts 0 J (k34 kk) 100000 true [.code (fb Tryd.f34).2] (start ([V.int i64 x, V.int i64 y]) ([])) =
 (bif !decide (x = x) then
 (bif !decide (y = y) then
 kk (V.int i64 (0 : Int)) ([])
 else kk (V.int i64 ((-1 : Int))) ([]))
 else (bif !decide (y = y) then
 kk (V.int i64 (1 : Int)) ([])
 else (bif decide (x < y) then
 kk (V.int i64 ((-1 : Int))) ([])
 else (bif decide (y < x) then
 kk (V.int i64 (1 : Int)) ([])
 else kk (V.int i64 (0 : Int)) ([]))))) := by kernel_rfl
noncomputable abbrev f50cuts : Cuts := fun _ => none
noncomputable abbrev k50 {Q : Type} (k : V → List Ob → Option Q) := vend (E1 8) 0 (fb Tryd.f50).1.results.toList false k
theorem f50_go (x y : Int × Int) :
 vseg (E1 8) f50cuts 0 J (k50 kk) 100000 true [.code (fb Tryd.f50).2] (start ([enc true rK2 x, enc true rK2 y]) ([])) =
 (bif !decide (i64.wrap (x.fst - y.fst) = 0) then
 kk (V.int i64 (i64.wrap (x.fst - y.fst))) ([])
 else (bif !decide (i64.wrap (x.snd - y.snd) = 0) then
 kk (V.int i64 (i64.wrap (x.snd - y.snd))) ([])
 else kk (V.int i64 (0 : Int)) ([]))) := by kernel_rfl
end Vm.S14
open Go Go.Proofs
namespace Vm.S14
theorem f34_run {R : Type} (kk : V → List Ob → Option R) (x y : Int) :
  vrun (E1 8) f34cuts 0 100000 (k34 kk) 1 [.code (fb Tryd.f34).2] (start [enc false rI x, enc false rI y] []) = kk (.int .i64 (cmpI x y)) [] := by
 rw [vrun_succ]
 refine (f34_go _ kk x y).trans ?_
 rw [bif_neg (by simp), bif_neg (by simp)]
 unfold cmpI
 by_cases h : x < y
 ·rw [bif_pos (by simp [h]), if_pos h]
 ·rw [bif_neg (by simp [h]), if_neg h]
  by_cases h' : y < x
  ·rw [bif_pos (by simp [h']), if_pos h']
  ·rw [bif_neg (by simp [h']), if_neg h']
noncomputable def f34e : Entry Tryd.prog gls := .two 34 false rI false rI (by intro h; rfl) (by intro h; rfl) (fun (x y : Int) => (true, .int .i64 (cmpI x y))) fun x y h => by
 have hn := f34_run (fun v os => some (v, os)) x y
 exact contract_run (fn := (fb Tryd.f34).1) (c := (fb Tryd.f34).2) mixed (ready1 8) (glE1 8) Tryd.func34 (by kernel_rfl) rfl rfl (by kernel_rfl) hn
noncomputable def es2 : List (Entry Tryd.prog gls) := [f34e] ++ es1
noncomputable def E2 (n : Nat) : Env := interp fns (look tys) gls mvs (tabOf es2) 100000 n
theorem ready2 (n : Nat) : Ready Tryd.prog (E2 n) := ready_of mixed fnsAll tysOk rfsOk n
theorem glE2 (n : Nat) : (E2 n).gl = gls := by cases n <;> rfl
end Vm.S14
open Go Go.Proofs Go.IntKind
namespace Vm.S14
variable {R : Type} (J : List Item → St → Option R) (kk : V → List Ob → Option R)
noncomputable abbrev f32cuts : Cuts := fun _ => none
noncomputable abbrev k32 {Q : Type} (k : V → List Ob → Option Q) := vend (E2 8) 0 (fb Tryd.f32).1.results.toList false k
theorem f32_go (x y : Nt) :
 vseg (E2 8) f32cuts 0 J (k32 kk) 100000 true [.code (fb Tryd.f32).2] (start ([enc true rNote x, enc true rNote y]) ([])) =
 (bif !decide (cmpI x.snd.fst y.snd.fst = 0) then
 kk (V.int i64 (cmpI x.snd.fst y.snd.fst)) ([])
 else (bif !decide (cmpI x.snd.snd.fst y.snd.snd.fst = 0) then
 kk (V.int i64 (cmpI x.snd.snd.fst y.snd.snd.fst)) ([])
 else (bif !decide (cmpI x.snd.snd.snd.snd.fst y.snd.snd.snd.snd.fst = 0) then
 kk (V.int i64 (cmpI x.snd.snd.snd.snd.fst y.snd.snd.snd.snd.fst)) ([])
 else (bif !decide (cmpI x.snd.snd.snd.snd.snd.fst y.snd.snd.snd.snd.snd.fst = 0) then
 kk (V.int i64 (cmpI x.snd.snd.snd.snd.snd.fst y.snd.snd.snd.snd.snd.fst)) ([])
 else kk (V.int i64 (0 : Int)) ([]))))) := by kernel_rfl
end Vm.S14
open Go Go.Proofs
namespace Vm.S14
theorem or_tree {R : Type} (F : Int → Option R) (a b c d : Int) : (bif !decide (a = 0) then F a else (bif !decide (b = 0) then F b else (bif !decide (c = 0) then F c else (bif !decide (d = 0) then F d else F 0)))) = F (orI a (orI b (orI c d))) := by
 unfold orI
 by_cases h1 : a = 0 <;> by_cases h2 : b = 0 <;> by_cases h3 : c = 0 <;> by_cases h4 : d = 0 <;> simp [h1, h2, h3, h4]
theorem f32_run {R : Type} (kk : V → List Ob → Option R) (x y : Nt) :
  vrun (E2 8) f32cuts 0 100000 (k32 kk) 1 [.code (fb Tryd.f32).2] (start [enc true rNote x, enc true rNote y] []) = kk (.int .i64 (cmpN x y)) [] := by
 rw [vrun_succ]
 refine (f32_go _ kk x y).trans ?_
 exact or_tree (fun z => kk (.int .i64 z) []) _ _ _ _
noncomputable def f32e : Entry Tryd.prog gls := .two 32 true rNote true rNote (by intro h; cases h) (by intro h; cases h) (fun (x y : Nt) => (true, .int .i64 (cmpN x y))) fun x y h => by
 have hn := f32_run (fun v os => some (v, os)) x y
 exact contract_run (fn := (fb Tryd.f32).1) (c := (fb Tryd.f32).2) mixed (ready2 8) (glE2 8) Tryd.func32 (by kernel_rfl) rfl rfl (by kernel_rfl) hn
noncomputable def es3 : List (Entry Tryd.prog gls) := [f32e] ++ es2
noncomputable def E3 (n : Nat) : Env := interp fns (look tys) gls mvs (tabOf es3) 100000 n
theorem ready3 (n : Nat) : Ready Tryd.prog (E3 n) := ready_of mixed fnsAll tysOk rfsOk n
theorem glE3 (n : Nat) : (E3 n).gl = gls := by cases n <;> rfl
end Vm.S14
open Go Go.Proofs Go.IntKind
namespace Vm.S14
variable {R : Type} (J : List Item → St → Option R) (kk : V → List Ob → Option R)
noncomputable abbrev f52cuts : Cuts := look [(1, [0, 1, 2, 3, 8]), (4, [0, 1, 2, 3, 8, 9])]
noncomputable abbrev f52t4 : List Item := itemsAt (fb Tryd.f52).2 4
noncomputable abbrev f52t1 : List Item := itemsAt (fb Tryd.f52).2 1
def f52s0 (a b n1 : Int) (l2 : List Nt) : St := { fr := [(0, V.own 0), (1, V.int i64 a), (2, V.int i64 b), (3, V.fn 32 [] []), (8, V.int i64 n1)], hp := [(0, Ob.arr rNote l2 false)], nx := 1 }
def f52s1 (a b n1 n3 : Int) (l4 : List Nt) : St := { fr := [(0, V.own 0), (1, V.int i64 a), (2, V.int i64 b), (3, V.fn 32 [] []), (8, V.int i64 n1), (9, V.int i64 n3)], hp := [(0, Ob.arr rNote l4 false)], nx := 1 }
noncomputable abbrev k52 {Q : Type} (k : V → List Ob → Option Q) := vend (E3 8) 1 (fb Tryd.f52).1.results.toList false k
theorem f52_go (l : List Nt) (a b : Int) :
 vseg (E3 8) f52cuts 1 J (k52 kk) 100000 true [.code (fb Tryd.f52).2] (start ([V.own (0 : Nat), V.int i64 a, V.int i64 b, V.fn (32 : Nat) [] []]) ([Ob.arr rNote l false])) =
 J f52t1 (f52s0 a b (i64.wrap (a + 1)) l) := by kernel_rfl
theorem f52_0 (a b n1 : Int) (l2 : List Nt) :
 vseg (E3 8) f52cuts 1 J (k52 kk) 100000 true f52t1 (f52s0 a b n1 l2) =
 (bif decide (n1 < b) then
 J f52t4 (f52s1 a b n1 n1 l2)
 else kk (V.tuple []) ([Ob.arr rNote l2 false])) := by kernel_rfl
theorem f52_1 (a b n1 n3 : Int) (l4 : List Nt) :
 vseg (E3 8) f52cuts 1 J (k52 kk) 100000 true f52t4 (f52s1 a b n1 n3 l4) =
 (bif decide (a < n3) then
 (match idx l4 n3 with
 | some _ => (match l4[n3.toNat]? with
 | some y6 => (match idx l4 (i64.wrap (n3 - 1)) with
 | some _ => (match l4[(i64.wrap (n3 - 1)).toNat]? with
 | some y8 => (bif decide (cmpN y6 y8 < 0) then
 (match idx l4 (i64.wrap (n3 - 1)) with
 | some _ => (match l4[(i64.wrap (n3 - 1)).toNat]? with
 | some y10 => (match idx l4 n3 with
 | some _ => (match l4[n3.toNat]? with
 | some y12 => (match idx l4 n3 with
 | some _ => (match l4[n3.toNat]? with
 | some _ => (match idx (l4.set n3.toNat y10) (i64.wrap (n3 - 1)) with
 | some _ => (match (l4.set n3.toNat y10)[(i64.wrap (n3 - 1)).toNat]? with
 | some _ => J f52t4 (f52s1 a b n1 (i64.wrap (n3 - 1)) ((l4.set n3.toNat y10).set (i64.wrap (n3 - 1)).toNat y12))
 | none => none)
 | none => none)
 | none => none)
 | none => none)
 | none => none)
 | none => none)
 | none => none)
 | none => none)
 else J f52t1 (f52s0 a b (i64.wrap (n1 + 1)) l4))
 | none => none)
 | none => none)
 | none => none)
 | none => none)
 else J f52t1 (f52s0 a b (i64.wrap (n1 + 1)) l4)) := by kernel_rfl
noncomputable abbrev f77cuts : Cuts := look [(1, [0, 1, 2, 3, 10])]
noncomputable abbrev f77t1 : List Item := itemsAt (fb Tryd.f77).2 1
def f77s0 (a b n n1 : Int) (l2 : List Nt) : St := { fr := [(0, V.own 0), (1, V.int i64 a), (2, V.int i64 b), (3, V.int i64 n), (10, V.int i64 n1)], hp := [(0, Ob.arr rNote l2 false)], nx := 1 }
noncomputable abbrev k77 {Q : Type} (k : V → List Ob → Option Q) := vend (E3 8) 1 (fb Tryd.f77).1.results.toList false k
theorem f77_go (l : List Nt) (a b n : Int) :
 vseg (E3 8) f77cuts 1 J (k77 kk) 100000 true [.code (fb Tryd.f77).2] (start ([V.own (0 : Nat), V.int i64 a, V.int i64 b, V.int i64 n, V.fn (32 : Nat) [] []]) ([Ob.arr rNote l false])) =
 J f77t1 (f77s0 a b n (0 : Int) l) := by kernel_rfl
theorem f77_0 (a b n n1 : Int) (l2 : List Nt) :
 vseg (E3 8) f77cuts 1 J (k77 kk) 100000 true f77t1 (f77s0 a b n n1 l2) =
 (bif decide (n1 < n) then
 (match idx l2 (i64.wrap (b + n1)) with
 | some _ => (match l2[(i64.wrap (b + n1)).toNat]? with
 | some y4 => (match idx l2 (i64.wrap (a + n1)) with
 | some _ => (match l2[(i64.wrap (a + n1)).toNat]? with
 | some y6 => (match idx l2 (i64.wrap (a + n1)) with
 | some _ => (match l2[(i64.wrap (a + n1)).toNat]? with
 | some _ => (match idx (l2.set (i64.wrap (a + n1)).toNat y4) (i64.wrap (b + n1)) with
 | some _ => (match (l2.set (i64.wrap (a + n1)).toNat y4)[(i64.wrap (b + n1)).toNat]? with
 | some _ => J f77t1 (f77s0 a b n (i64.wrap (n1 + 1)) ((l2.set (i64.wrap (a + n1)).toNat y4).set (i64.wrap (b + n1)).toNat y6))
 | none => none)
 | none => none)
 | none => none)
 | none => none)
 | none => none)
 | none => none)
 | none => none)
 | none => none)
 else kk (V.tuple []) ([Ob.arr rNote l2 false])) := by kernel_rfl
end Vm.S14
open Go Go.Proofs
namespace Vm
theorem get_bang {α : Type} [Inhabited α] {l : List α} {i : Nat} (h : i < l.length) : l[i]? = some l[i]! := by simp [h]
theorem toNat_cast (n : Nat) : ((n : Nat) : Int).toNat = n := rfl
theorem wrap_pred {n : Nat} (h : n < 4611686018427387904) : IntKind.wrap .i64 (((n + 1 : Nat) : Int) - 1) = (n : Int) := by
 rw [show ((n + 1 : Nat) : Int) - 1 = (n : Int) by omega]; exact wrap64 (by omega) (by omega)
theorem wrap_add {a b : Nat} (h : a + b < 4611686018427387904) : IntKind.wrap .i64 ((a : Int) + (b : Int)) = ((a + b : Nat) : Int) := by
 rw [show (a : Int) + (b : Int) = ((a + b : Nat) : Int) by omega]; exact wrap64 (by omega) (by omega)
theorem wrap_sub {a b : Nat} (h : b ≤ a) (ha : a < 4611686018427387904) : IntKind.wrap .i64 ((a : Int) - (b : Int)) = ((a - b : Nat) : Int) := by
 rw [show (a : Int) - (b : Int) = ((a - b : Nat) : Int) by omega]; exact wrap64 (by omega) (by omega)
end Vm
namespace Vm.S14
noncomputable abbrev V52 {R : Type} (kk : V → List Ob → Option R) (n : Nat) (t : List Item) (s : St) : Option R := vrun (E3 8) f52cuts 1 100000 (k52 kk) n t s
theorem f52_in {R : Type} (kk : V → List Ob → Option R) (a b i : Nat) (hi : i < 1000000000) : ∀ (j : Nat) (l : List Nt), j < l.length → l.length < 1000000000 → ∃ k, ∀ N, V52 kk (N + k) f52t4 (f52s1 a b i j l) = V52 kk N f52t1 (f52s0 a b ((i + 1 : Nat) : Int) (insIn ltN a j l)) := by
 intro j
 induction j with
 | zero =>
   intro l hj hl
   refine ⟨1, fun N => ?_⟩
   unfold V52
   rw [vrun_succ, f52_1, bif_neg (by exact decide_eq_false (by omega)), wrap_succ (by omega)]
   rfl
 | succ j ih =>
   intro l hj hl
   by_cases ha : a < j + 1
   ·by_cases hlt : ltN l[j + 1]! l[j]! = true
    ·obtain ⟨k, hk⟩ := ih (swL l (j + 1) j) (by rw [swL_len]; omega) (by rw [swL_len]; omega)
     refine ⟨k + 1, fun N => ?_⟩
     rw [← Nat.add_assoc]
     have hn := hk N
     unfold V52 at hn ⊢
     rw [vrun_succ, f52_1, bif_pos (by exact decide_eq_true (by omega)), wrap_pred (by omega)]
     simp only [idx_nat, toNat_cast, get_bang hj, get_bang (show j < l.length by omega)]
     rw [bif_pos (by exact hlt)]
     rw [get_bang (show j < (l.set (j + 1) l[j]!).length by simp; omega)]
     dsimp only
     show vrun _ _ _ _ _ _ _ (f52s1 a b i j (swL l (j + 1) j)) = _
     rw [hn]
     have e : insIn ltN a (j + 1) l = insIn ltN a j (swL l (j + 1) j) := by
      show (if _ then _ else _) = _
      rw [decide_eq_true (show j + 1 > a by omega), hlt]; rfl
     rw [e]
    ·refine ⟨1, fun N => ?_⟩
     unfold V52
     rw [vrun_succ, f52_1, bif_pos (by exact decide_eq_true (by omega)), wrap_pred (by omega)]
     simp only [idx_nat, toNat_cast, get_bang hj, get_bang (show j < l.length by omega)]
     rw [bif_neg (by exact Bool.eq_false_iff.2 hlt), wrap_succ (by omega)]
     have e : insIn ltN a (j + 1) l = l := by
      show (if _ then _ else _) = _
      rw [Bool.eq_false_iff.2 hlt, Bool.and_false]; rfl
     rw [e]
   ·refine ⟨1, fun N => ?_⟩
    unfold V52
    rw [vrun_succ, f52_1, bif_neg (by exact decide_eq_false (by omega)), wrap_succ (by omega)]
    have e : insIn ltN a (j + 1) l = l := by
     show (if _ then _ else _) = _
     rw [decide_eq_false (show ¬ j + 1 > a by omega), Bool.false_and]; rfl
    rw [e]
theorem insIn_len : ∀ (j a : Nat) (l : List Nt), (insIn ltN a j l).length = l.length
 | 0, a, l => rfl
 | j + 1, a, l => by
   unfold insIn
   split
   ·rw [insIn_len j, swL_len]
   ·rfl
theorem f52_out {R : Type} (kk : V → List Ob → Option R) (a b : Nat) : ∀ (d i : Nat) (l : List Nt), b - i = d → b ≤ l.length → l.length < 1000000000 → i < 1000000000 → ∃ k, V52 kk k f52t1 (f52s0 a b i l) = kk (.tuple []) [.arr rNote (insOut ltN a b i l : List Nt) false] := by
 intro d
 induction d with
 | zero =>
   intro i l hd hb hl hi
   refine ⟨1, ?_⟩
   unfold V52
   rw [vrun_succ, f52_0, bif_neg (by exact decide_eq_false (by omega))]
   unfold insOut
   rw [if_neg (by omega)]
 | succ d ih =>
   intro i l hd hb hl hi
   obtain ⟨k1, h1⟩ := ih (i + 1) (insIn ltN a i l) (by omega) (by rw [insIn_len]; exact hb) (by rw [insIn_len]; exact hl) (by omega)
   obtain ⟨k2, h2⟩ := f52_in kk a b i hi i l (by omega) hl
   refine ⟨k1 + k2 + 1, ?_⟩
   have h2 := h2 k1
   unfold V52 at h1 h2 ⊢
   rw [vrun_succ, f52_0, bif_pos (by exact decide_eq_true (by omega)), h2, h1]
   conv => rhs; unfold insOut
   rw [if_pos (show i < b by omega)]
theorem f52_run {R : Type} (kk : V → List Ob → Option R) (l : List Nt) (a b : Nat) (hb : b ≤ l.length) (hl : l.length < 1000000000) (ha : a < 900000000) :
  ∃ N, vrun (E3 8) f52cuts 1 100000 (k52 kk) N [.code (fb Tryd.f52).2] (start [.own 0, .int .i64 a, .int .i64 b, .fn 32 [] []] [.arr rNote l false]) = kk (.tuple []) [.arr rNote (insL ltN l a b : List Nt) false] := by
 obtain ⟨k, h⟩ := f52_out kk a b (b - (a + 1)) (a + 1) l rfl hb hl (by omega)
 refine ⟨k + 1, ?_⟩
 rw [vrun_succ]
 refine (f52_go _ kk l a b).trans ?_
 rw [wrap_succ (by omega)]
 exact h
theorem f77_loop {R : Type} (kk : V → List Ob → Option R) (a b n : Nat) : ∀ (d i : Nat) (l : List Nt), n - i = d → a + n ≤ l.length → b + n ≤ l.length → l.length < 1000000000 → ∃ k,
  vrun (E3 8) f77cuts 1 100000 (k77 kk) k f77t1 (f77s0 a b n i l) = kk (.tuple []) [.arr rNote (swFrom a b n i l : List Nt) false] := by
 intro d
 induction d with
 | zero =>
   intro i l hd ha hb hl
   refine ⟨1, ?_⟩
   rw [vrun_succ, f77_0, bif_neg (by exact decide_eq_false (by omega))]
   unfold swFrom
   rw [if_neg (by omega)]
 | succ d ih =>
   intro i l hd ha hb hl
   obtain ⟨k, hk⟩ := ih (i + 1) (swL l (a + i) (b + i)) (by omega) (by rw [swL_len]; exact ha) (by rw [swL_len]; exact hb) (by rw [swL_len]; exact hl)
   refine ⟨k + 1, ?_⟩
   rw [vrun_succ, f77_0, bif_pos (by exact decide_eq_true (by omega)), wrap_add (show b + i < _ by omega), wrap_add (show a + i < _ by omega), wrap_succ (show i < _ by omega)]
   simp only [idx_nat, toNat_cast, get_bang (show a + i < l.length by omega), get_bang (show b + i < l.length by omega)]
   rw [get_bang (show b + i < (l.set (a + i) l[b + i]!).length by simp; omega)]
   dsimp only
   conv => rhs; unfold swFrom
   rw [if_pos (show i < n by omega)]
   exact hk
theorem f77_run {R : Type} (kk : V → List Ob → Option R) (l : List Nt) (a b n : Nat) (ha : a + n ≤ l.length) (hb : b + n ≤ l.length) (hl : l.length < 1000000000) :
  ∃ N, vrun (E3 8) f77cuts 1 100000 (k77 kk) N [.code (fb Tryd.f77).2] (start [.own 0, .int .i64 a, .int .i64 b, .int .i64 n, .fn 32 [] []] [.arr rNote l false]) = kk (.tuple []) [.arr rNote (swFrom a b n 0 l : List Nt) false] := by
 obtain ⟨k, h⟩ := f77_loop kk a b n n 0 l rfl ha hb hl
 refine ⟨k + 1, ?_⟩
 rw [vrun_succ]
 refine (f77_go _ kk l a b n).trans ?_
 exact h
end Vm.S14
open Go Go.Proofs
namespace Vm.S14
def own52 (l : List Nt) (a b : Int) : Bool × V × List Ob := (decide (0 ≤ a ∧ 0 ≤ b ∧ l.length < 1000000000 ∧ b.toNat ≤ l.length ∧ a < 900000000), .tuple [], [.arr rNote (insN l a.toNat b.toNat : List Nt) false])
theorem f52_con (l : List Nt) (a b : Int) (hc : decide (0 ≤ a ∧ 0 ≤ b ∧ l.length < 1000000000 ∧ b.toNat ≤ l.length ∧ a < 900000000) = true) : Contract Tryd.prog gls 52 [.own 0, .int .i64 a, .int .i64 b, .fn 32 [] []] [.arr rNote l false] (.tuple []) [.arr rNote (insN l a.toNat b.toNat : List Nt) false] := by
 obtain ⟨h1, h2, hl, hg⟩ := of_decide_eq_true hc
 obtain ⟨a, rfl⟩ := Int.eq_ofNat_of_zero_le h1
 obtain ⟨b, rfl⟩ := Int.eq_ofNat_of_zero_le h2
 simp only [Int.toNat_natCast] at *
 obtain ⟨N, hN⟩ := f52_run (fun v os => some (v, os)) l a b (by omega) hl (by omega)
 exact ps_contract (ready3 8) (glE3 8) (fn := (fb Tryd.f52).1) (c := (fb Tryd.f52).2) Tryd.func52 (by kernel_rfl) (by kernel_rfl) (by decide) (rfOk_no (by kernel_rfl)) hN (show 1 ≤ 1 by decide)
noncomputable def f52e : Entry Tryd.prog gls where
 f := 52
 g := fun args os => match args, os with
   | [.own 0, .int .i64 a, .int .i64 b, .fn 32 [] []], [.arr r l false] => match Ks.eqp r rNote with
     | some ⟨h⟩ => some (own52 (Ks.cast h l) a b)
     | none => none
   | _, _ => none
 says := by
  intro args os c v os' h hc
  split at h
  ·split at h
   ·rename_i _ e _
    subst e
    cases h
    exact f52_con _ _ _ hc
   ·cases h
  ·cases h
def own77 (l : List Nt) (a b n : Int) : Bool × V × List Ob := (decide (0 ≤ a ∧ 0 ≤ b ∧ 0 ≤ n ∧ l.length < 1000000000 ∧ a.toNat + n.toNat ≤ l.length ∧ b.toNat + n.toNat ≤ l.length), .tuple [], [.arr rNote (swN l a.toNat b.toNat n.toNat : List Nt) false])
theorem f77_con (l : List Nt) (a b n : Int) (hc : decide (0 ≤ a ∧ 0 ≤ b ∧ 0 ≤ n ∧ l.length < 1000000000 ∧ a.toNat + n.toNat ≤ l.length ∧ b.toNat + n.toNat ≤ l.length) = true) : Contract Tryd.prog gls 77 [.own 0, .int .i64 a, .int .i64 b, .int .i64 n, .fn 32 [] []] [.arr rNote l false] (.tuple []) [.arr rNote (swN l a.toNat b.toNat n.toNat : List Nt) false] := by
 obtain ⟨h1, h2, h3, hl, hg⟩ := of_decide_eq_true hc
 obtain ⟨a, rfl⟩ := Int.eq_ofNat_of_zero_le h1
 obtain ⟨b, rfl⟩ := Int.eq_ofNat_of_zero_le h2
 obtain ⟨n, rfl⟩ := Int.eq_ofNat_of_zero_le h3
 simp only [Int.toNat_natCast] at *
 obtain ⟨N, hN⟩ := f77_run (fun v os => some (v, os)) l a b n (by omega) (by omega) hl
 exact ps_contract (ready3 8) (glE3 8) (fn := (fb Tryd.f77).1) (c := (fb Tryd.f77).2) Tryd.func77 (by kernel_rfl) (by kernel_rfl) (by decide) (rfOk_no (by kernel_rfl)) hN (show 1 ≤ 1 by decide)
noncomputable def f77e : Entry Tryd.prog gls where
 f := 77
 g := fun args os => match args, os with
   | [.own 0, .int .i64 a, .int .i64 b, .int .i64 n, .fn 32 [] []], [.arr r l false] => match Ks.eqp r rNote with
     | some ⟨h⟩ => some (own77 (Ks.cast h l) a b n)
     | none => none
   | _, _ => none
 says := by
  intro args os c v os' h hc
  split at h
  ·split at h
   ·rename_i _ e _
    subst e
    cases h
    exact f77_con _ _ _ _ hc
   ·cases h
  ·cases h
noncomputable def es4 : List (Entry Tryd.prog gls) := [f52e, f77e] ++ es3
noncomputable def E4 (n : Nat) : Env := interp fns (look tys) gls mvs (tabOf es4) 100000 n
theorem ready4 (n : Nat) : Ready Tryd.prog (E4 n) := ready_of mixed fnsAll tysOk rfsOk n
theorem glE4 (n : Nat) : (E4 n).gl = gls := by cases n <;> rfl
end Vm.S14
open Go Go.Proofs Go.IntKind
namespace Vm.S14
variable {R : Type} (J : List Item → St → Option R) (kk : V → List Ob → Option R)
noncomputable abbrev f63cuts : Cuts := look [(2, [0, 2, 4, 10, 11])]
noncomputable abbrev f63t2 : List Item := itemsAt (fb Tryd.f63).2 2
def f63s0 (m n1 n2 : Int) (l3 : List Nt) : St := { fr := [(0, V.own 0), (2, V.int i64 m), (4, V.fn 32 [] []), (10, V.int i64 n1), (11, V.int i64 n2)], hp := [(0, Ob.arr rNote l3 false)], nx := 1 }
noncomputable abbrev k63 {Q : Type} (k : V → List Ob → Option Q) := vend (E4 8) 1 (fb Tryd.f63).1.results.toList false k
theorem f63_go (l : List Nt) (a m b : Int) :
 vseg (E4 8) f63cuts 1 J (k63 kk) 100000 true [.code (fb Tryd.f63).2] (start ([V.own (0 : Nat), V.int i64 a, V.int i64 m, V.int i64 b, V.fn (32 : Nat) [] []]) ([Ob.arr rNote l false])) =
 J f63t2 (f63s0 m (i64.wrap (m - a)) (i64.wrap (b - m)) l) := by kernel_rfl
theorem f63_0 (m n1 n2 : Int) (l3 : List Nt) :
 vseg (E4 8) f63cuts 1 J (k63 kk) 100000 true f63t2 (f63s0 m n1 n2 l3) =
 (bif !decide (n1 = n2) then
 (bif decide (n2 < n1) then
 (bif (own77 l3 (i64.wrap (m - n1)) m n2).fst then
 J f63t2 (f63s0 m (i64.wrap (n1 - n2)) n2 (swN l3 (i64.wrap (m - n1)).toNat m.toNat n2.toNat))
 else none)
 else (bif (own77 l3 (i64.wrap (m - n1)) (i64.wrap (i64.wrap (m + n2) - n1)) n1).fst then
 J f63t2 (f63s0 m n1 (i64.wrap (n2 - n1)) (swN l3 (i64.wrap (m - n1)).toNat (i64.wrap (i64.wrap (m + n2) - n1)).toNat n1.toNat))
 else none))
 else (bif (own77 l3 (i64.wrap (m - n1)) m n1).fst then
 kk (V.tuple []) ([Ob.arr rNote (swN l3 (i64.wrap (m - n1)).toNat m.toNat n1.toNat) false])
 else none)) := by kernel_rfl
end Vm.S14
open Go Go.Proofs
namespace Vm.S14
theorem swN_len (l : List Nt) (a b n : Nat) : (swN l a b n).length = l.length := by
 unfold swN
 have : ∀ (d i : Nat) (l : List Nt), n - i = d → (swFrom a b n i l).length = l.length := by
  intro d
  induction d with
  | zero => intro i l h; unfold swFrom; rw [if_neg (by omega)]
  | succ d ih => intro i l h; unfold swFrom; rw [if_pos (by omega), ih (i + 1) _ (by omega), swL_len]
 exact this n 0 l rfl
theorem f63_loop {R : Type} (kk : V → List Ob → Option R) (m : Nat) : ∀ (s i j : Nat) (l : List Nt), i + j ≤ s → 0 < i → 0 < j → i ≤ m → m + j ≤ l.length → l.length < 1000000000 → ∃ k,
  vrun (E4 8) f63cuts 1 100000 (k63 kk) k f63t2 (f63s0 m i j l) = kk (.tuple []) [.arr rNote (rotN l m i j) false] := by
 intro s
 induction s with
 | zero => intro i j l h h1 h2; omega
 | succ s ih =>
   intro i j l h h1 h2 h3 h4 h5
   by_cases hij : i = j
   ·subst hij
    refine ⟨1, ?_⟩
    rw [vrun_succ, f63_0, bif_neg (by simp), wrap_sub h3 (by omega), bif_pos (by exact decide_eq_true (by simp only [Int.toNat_natCast]; omega))]
    unfold rotN rotL
    rw [if_pos rfl]
    rfl
   ·by_cases hlt : j < i
    ·obtain ⟨k, hk⟩ := ih (i - j) j (swN l (m - i) m j) (by omega) (by omega) h2 (by omega) (by rw [swN_len]; exact h4) (by rw [swN_len]; exact h5)
     refine ⟨k + 1, ?_⟩
     rw [vrun_succ, f63_0, bif_pos (by simp; omega), bif_pos (by exact decide_eq_true (by omega)), wrap_sub h3 (by omega), wrap_sub (by omega : j ≤ i) (by omega), bif_pos (by exact decide_eq_true (by simp only [Int.toNat_natCast]; omega))]
     simp only [Int.toNat_natCast]
     rw [hk]
     have e : rotN l m i j = rotN (swN l (m - i) m j) m (i - j) j := by
      conv => lhs; unfold rotN rotL
      rw [if_neg hij, if_neg (by omega), if_pos (by omega)]
      rfl
     rw [e]
    ·obtain ⟨k, hk⟩ := ih i (j - i) (swN l (m - i) (m + j - i) i) (by omega) h1 (by omega) h3 (by rw [swN_len]; omega) (by rw [swN_len]; exact h5)
     refine ⟨k + 1, ?_⟩
     rw [vrun_succ, f63_0, bif_pos (by simp; omega), bif_neg (by exact decide_eq_false (by omega)), wrap_sub h3 (by omega), wrap_add (show m + j < _ by omega), wrap_sub (by omega : i ≤ m + j) (by omega), wrap_sub (by omega : i ≤ j) (by omega), bif_pos (by exact decide_eq_true (by simp only [Int.toNat_natCast]; omega))]
     simp only [Int.toNat_natCast]
     rw [hk]
     have e : rotN l m i j = rotN (swN l (m - i) (m + j - i) i) m i (j - i) := by
      conv => lhs; unfold rotN rotL
      rw [if_neg hij, if_neg (by omega), if_neg (by omega)]
      rfl
     rw [e]
theorem f63_run {R : Type} (kk : V → List Ob → Option R) (l : List Nt) (a m b : Nat) (h1 : a < m) (h2 : m < b) (h3 : b ≤ l.length) (h4 : l.length < 1000000000) :
  ∃ N, vrun (E4 8) f63cuts 1 100000 (k63 kk) N [.code (fb Tryd.f63).2] (start [.own 0, .int .i64 a, .int .i64 m, .int .i64 b, .fn 32 [] []] [.arr rNote l false]) = kk (.tuple []) [.arr rNote (rotN l m (m - a) (b - m)) false] := by
 obtain ⟨k, h⟩ := f63_loop kk m _ (m - a) (b - m) l (Nat.le_refl _) (by omega) (by omega) (by omega) (by omega) h4
 refine ⟨k + 1, ?_⟩
 rw [vrun_succ]
 refine (f63_go _ kk l a m b).trans ?_
 rw [wrap_sub (by omega) (by omega), wrap_sub (by omega) (by omega)]
 exact h
def own63 (l : List Nt) (a m b : Int) : Bool × V × List Ob := (decide (0 ≤ a ∧ 0 ≤ m ∧ 0 ≤ b ∧ l.length < 1000000000 ∧ a.toNat < m.toNat ∧ m.toNat < b.toNat ∧ b.toNat ≤ l.length), .tuple [], [.arr rNote (rotN l m.toNat (m.toNat - a.toNat) (b.toNat - m.toNat) : List Nt) false])
theorem f63_con (l : List Nt) (a m b : Int) (hc : decide (0 ≤ a ∧ 0 ≤ m ∧ 0 ≤ b ∧ l.length < 1000000000 ∧ a.toNat < m.toNat ∧ m.toNat < b.toNat ∧ b.toNat ≤ l.length) = true) : Contract Tryd.prog gls 63 [.own 0, .int .i64 a, .int .i64 m, .int .i64 b, .fn 32 [] []] [.arr rNote l false] (.tuple []) [.arr rNote (rotN l m.toNat (m.toNat - a.toNat) (b.toNat - m.toNat) : List Nt) false] := by
 obtain ⟨h1, h2, h3, hl, hg⟩ := of_decide_eq_true hc
 obtain ⟨a, rfl⟩ := Int.eq_ofNat_of_zero_le h1
 obtain ⟨m, rfl⟩ := Int.eq_ofNat_of_zero_le h2
 obtain ⟨b, rfl⟩ := Int.eq_ofNat_of_zero_le h3
 simp only [Int.toNat_natCast] at *
 obtain ⟨N, hN⟩ := f63_run (fun v os => some (v, os)) l a m b (by omega) (by omega) (by omega) hl
 exact ps_contract (ready4 8) (glE4 8) (fn := (fb Tryd.f63).1) (c := (fb Tryd.f63).2) Tryd.func63 (by kernel_rfl) (by kernel_rfl) (by decide) (rfOk_no (by kernel_rfl)) hN (show 1 ≤ 1 by decide)
noncomputable def f63e : Entry Tryd.prog gls where
 f := 63
 g := fun args os => match args, os with
   | [.own 0, .int .i64 a, .int .i64 m, .int .i64 b, .fn 32 [] []], [.arr r l false] => match Ks.eqp r rNote with
     | some ⟨h⟩ => some (own63 (Ks.cast h l) a m b)
     | none => none
   | _, _ => none
 says := by
  intro args os c v os' h hc
  split at h
  ·split at h
   ·rename_i _ e _
    subst e
    cases h
    exact f63_con _ _ _ _ hc
   ·cases h
  ·cases h
noncomputable def es5 : List (Entry Tryd.prog gls) := [f63e] ++ es4
end Vm.S14
open Go Go.Proofs
namespace Vm.S14
def Below53 (n0 : Nat) : Prop := ∀ (l : List Nt) (a m b : Nat), a < m → m < b → b ≤ l.length → l.length < 1000000000 → b - a ≤ n0 →
 Contract Tryd.prog gls 53 [.own 0, .int .i64 a, .int .i64 m, .int .i64 b, .fn 32 [] []] [.arr rNote l false] (.tuple []) [.arr rNote (symN n0 l a m b) false]
def own53 (n0 : Nat) (l : List Nt) (a m b : Int) : Bool × V × List Ob := (decide (0 ≤ a ∧ 0 ≤ m ∧ 0 ≤ b ∧ l.length < 1000000000 ∧ a.toNat < m.toNat ∧ m.toNat < b.toNat ∧ b.toNat ≤ l.length ∧ b.toNat - a.toNat ≤ n0), .tuple [], [.arr rNote (symN n0 l a.toNat m.toNat b.toNat) false])
theorem own53_con {n0 : Nat} (h0 : Below53 n0) (l : List Nt) (a m b : Int) (hc : (own53 n0 l a m b).1 = true) : Contract Tryd.prog gls 53 [.own 0, .int .i64 a, .int .i64 m, .int .i64 b, .fn 32 [] []] [.arr rNote l false] (.tuple []) [.arr rNote (symN n0 l a.toNat m.toNat b.toNat) false] := by
 obtain ⟨h1, h2, h3, h4, h5, h6, h7, h8⟩ := of_decide_eq_true hc
 obtain ⟨a, rfl⟩ := Int.eq_ofNat_of_zero_le h1
 obtain ⟨m, rfl⟩ := Int.eq_ofNat_of_zero_le h2
 obtain ⟨b, rfl⟩ := Int.eq_ofNat_of_zero_le h3
 simp only [Int.toNat_natCast] at *
 exact h0 l a m b h5 h6 h7 h4 h8
noncomputable def f53E (n0 : Nat) (h0 : Below53 n0) : Entry Tryd.prog gls where
 f := 53
 g := fun args os => match args, os with
   | [.own 0, .int .i64 a, .int .i64 m, .int .i64 b, .fn 32 [] []], [.arr r l false] => match Ks.eqp r rNote with
     | some ⟨h⟩ => some (own53 n0 (Ks.cast h l) a m b)
     | none => none
   | _, _ => none
 says := by
  intro args os c v os' h hc
  split at h
  ·split at h
   ·rename_i _ e _
    subst e
    cases h
    exact own53_con h0 _ _ _ _ hc
   ·cases h
  ·cases h
noncomputable def esM (n0 : Nat) (h0 : Below53 n0) : List (Entry Tryd.prog gls) := [f53E n0 h0] ++ es5
noncomputable def EM (n0 : Nat) (h0 : Below53 n0) (n : Nat) : Env := interp fns (look tys) gls mvs (tabOf (esM n0 h0)) 100000 n
theorem readyM (n0 : Nat) (h0 : Below53 n0) (n : Nat) : Ready Tryd.prog (EM n0 h0 n) := ready_of mixed fnsAll tysOk rfsOk n
theorem glEM (n0 : Nat) (h0 : Below53 n0) (n : Nat) : (EM n0 h0 n).gl = gls := by cases n <;> rfl
end Vm.S14
open Go Go.Proofs Go.IntKind
namespace Vm.S14
variable (n0 : Nat) (h0 : Below53 n0)
variable {R : Type} (J : List Item → St → Option R) (kk : V → List Ob → Option R)
noncomputable abbrev f53cuts : Cuts := look [(3, [0, 1, 4, 10, 11]), (9, [0, 10, 13]), (15, [0, 2, 4, 14, 15]), (21, [0, 14, 17]), (33, [0, 1, 2, 3, 4, 18, 19, 20, 21, 22]), (39, [0, 1, 2, 3, 4, 18, 20, 24]), (41, [0, 1, 3, 4, 18, 20, 24]), (43, [0, 3, 4, 18, 24])]
noncomputable abbrev f53t43 : List Item := itemsAt (fb Tryd.f53).2 43
noncomputable abbrev f53t41 : List Item := itemsAt (fb Tryd.f53).2 41
noncomputable abbrev f53t39 : List Item := itemsAt (fb Tryd.f53).2 39
noncomputable abbrev f53t21 : List Item := itemsAt (fb Tryd.f53).2 21
noncomputable abbrev f53t9 : List Item := itemsAt (fb Tryd.f53).2 9
noncomputable abbrev f53t33 : List Item := itemsAt (fb Tryd.f53).2 33
noncomputable abbrev f53t15 : List Item := itemsAt (fb Tryd.f53).2 15
noncomputable abbrev f53t3 : List Item := itemsAt (fb Tryd.f53).2 3
def f53s0 (a n1 n2 : Int) (l3 : List Nt) : St := { fr := [(0, V.own 0), (1, V.int i64 a), (4, V.fn 32 [] []), (10, V.int i64 n1), (11, V.int i64 n2)], hp := [(0, Ob.arr rNote l3 false)], nx := 1 }
def f53s1 (m n4 n5 : Int) (l6 : List Nt) : St := { fr := [(0, V.own 0), (2, V.int i64 m), (4, V.fn 32 [] []), (14, V.int i64 n4), (15, V.int i64 n5)], hp := [(0, Ob.arr rNote l6 false)], nx := 1 }
def f53s2 (a m b n7 n8 : Int) (l9 : List Nt) : St := { fr := [(0, V.own 0), (1, V.int i64 a), (2, V.int i64 m), (3, V.int i64 b), (4, V.fn 32 [] []), (18, V.int i64 (i64.wrap ((u64.wrap (i64.wrap (a + b))).fdiv ((2 : Int) ^ min (Int.toNat (1 : Int)) u64.bits)))), (19, V.int i64 (i64.wrap (i64.wrap ((u64.wrap (i64.wrap (a + b))).fdiv ((2 : Int) ^ min (Int.toNat (1 : Int)) u64.bits)) + m))), (20, V.int i64 n7), (21, V.int i64 n8), (22, V.int i64 (i64.wrap (i64.wrap (i64.wrap ((u64.wrap (i64.wrap (a + b))).fdiv ((2 : Int) ^ min (Int.toNat (1 : Int)) u64.bits)) + m) - 1)))], hp := [(0, Ob.arr rNote l9 false)], nx := 1 }
def f53s3 (n1 n14 : Int) (l15 : List Nt) : St := { fr := [(0, V.own 0), (10, V.int i64 n1), (13, V.int i64 n14)], hp := [(0, Ob.arr rNote l15 false)], nx := 1 }
def f53s4 (n4 n20 : Int) (l21 : List Nt) : St := { fr := [(0, V.own 0), (14, V.int i64 n4), (17, V.int i64 n20)], hp := [(0, Ob.arr rNote l21 false)], nx := 1 }
def f53s5 (a m b n26 n27 n28 : Int) (l29 : List Nt) : St := { fr := [(0, V.own 0), (1, V.int i64 a), (2, V.int i64 m), (3, V.int i64 b), (4, V.fn 32 [] []), (18, V.int i64 n26), (20, V.int i64 n27), (24, V.int i64 n28)], hp := [(0, Ob.arr rNote l29 false)], nx := 1 }
def f53s6 (a b n46 n47 n48 : Int) (l49 : List Nt) : St := { fr := [(0, V.own 0), (1, V.int i64 a), (3, V.int i64 b), (4, V.fn 32 [] []), (18, V.int i64 n46), (20, V.int i64 n47), (24, V.int i64 n48)], hp := [(0, Ob.arr rNote l49 false)], nx := 1 }
def f53s7 (b n50 n51 : Int) (l52 : List Nt) : St := { fr := [(0, V.own 0), (3, V.int i64 b), (4, V.fn 32 [] []), (18, V.int i64 n50), (24, V.int i64 n51)], hp := [(0, Ob.arr rNote l52 false)], nx := 1 }
theorem f53_go (l : List Nt) (a m b : Int) :
 vseg (EM n0 h0 8) f53cuts 1 J (vend (EM n0 h0 8) 1 (fb Tryd.f53).1.results.toList false kk) 100000 true [.code (fb Tryd.f53).2] (start ([V.own (0 : Nat), V.int i64 a, V.int i64 m, V.int i64 b, V.fn (32 : Nat) [] []]) ([Ob.arr rNote l false])) =
 (bif decide (i64.wrap (m - a) = 1) then
 J f53t3 (f53s0 a m b l)
 else (bif decide (i64.wrap (b - m) = 1) then
 J f53t15 (f53s1 m a m l)
 else (bif decide (i64.wrap ((u64.wrap (i64.wrap (a + b))).fdiv ((2 : Int) ^ min (Int.toNat (1 : Int)) u64.bits)) < m) then
 J f53t33 (f53s2 a m b (i64.wrap (i64.wrap (i64.wrap ((u64.wrap (i64.wrap (a + b))).fdiv ((2 : Int) ^ min (Int.toNat (1 : Int)) u64.bits)) + m) - b)) (i64.wrap ((u64.wrap (i64.wrap (a + b))).fdiv ((2 : Int) ^ min (Int.toNat (1 : Int)) u64.bits))) l)
 else J f53t33 (f53s2 a m b a m l)))) := by kernel_rfl
theorem f53_0 (a n1 n2 : Int) (l3 : List Nt) :
 vseg (EM n0 h0 8) f53cuts 1 J (vend (EM n0 h0 8) 1 (fb Tryd.f53).1.results.toList false kk) 100000 true f53t3 (f53s0 a n1 n2 l3) =
 (bif decide (n1 < n2) then
 (match idx l3 (i64.wrap ((u64.wrap (i64.wrap (n1 + n2))).fdiv ((2 : Int) ^ min (Int.toNat (1 : Int)) u64.bits))) with
 | some _ => (match l3[(i64.wrap ((u64.wrap (i64.wrap (n1 + n2))).fdiv ((2 : Int) ^ min (Int.toNat (1 : Int)) u64.bits))).toNat]? with
 | some y11 => (match idx l3 a with
 | some _ => (match l3[a.toNat]? with
 | some y13 => (bif decide (cmpN y11 y13 < 0) then
 J f53t3 (f53s0 a (i64.wrap (i64.wrap ((u64.wrap (i64.wrap (n1 + n2))).fdiv ((2 : Int) ^ min (Int.toNat (1 : Int)) u64.bits)) + 1)) n2 l3)
 else J f53t3 (f53s0 a n1 (i64.wrap ((u64.wrap (i64.wrap (n1 + n2))).fdiv ((2 : Int) ^ min (Int.toNat (1 : Int)) u64.bits))) l3))
 | none => none)
 | none => none)
 | none => none)
 | none => none)
 else J f53t9 (f53s3 n1 a l3)) := by kernel_rfl
theorem f53_1 (m n4 n5 : Int) (l6 : List Nt) :
 vseg (EM n0 h0 8) f53cuts 1 J (vend (EM n0 h0 8) 1 (fb Tryd.f53).1.results.toList false kk) 100000 true f53t15 (f53s1 m n4 n5 l6) =
 (bif decide (n4 < n5) then
 (match idx l6 m with
 | some _ => (match l6[m.toNat]? with
 | some y17 => (match idx l6 (i64.wrap ((u64.wrap (i64.wrap (n4 + n5))).fdiv ((2 : Int) ^ min (Int.toNat (1 : Int)) u64.bits))) with
 | some _ => (match l6[(i64.wrap ((u64.wrap (i64.wrap (n4 + n5))).fdiv ((2 : Int) ^ min (Int.toNat (1 : Int)) u64.bits))).toNat]? with
 | some y19 => (bif !decide (cmpN y17 y19 < 0) then
 J f53t15 (f53s1 m (i64.wrap (i64.wrap ((u64.wrap (i64.wrap (n4 + n5))).fdiv ((2 : Int) ^ min (Int.toNat (1 : Int)) u64.bits)) + 1)) n5 l6)
 else J f53t15 (f53s1 m n4 (i64.wrap ((u64.wrap (i64.wrap (n4 + n5))).fdiv ((2 : Int) ^ min (Int.toNat (1 : Int)) u64.bits))) l6))
 | none => none)
 | none => none)
 | none => none)
 | none => none)
 else J f53t21 (f53s4 n4 m l6)) := by kernel_rfl
theorem f53_2 (a m b n7 n8 : Int) (l9 : List Nt) :
 vseg (EM n0 h0 8) f53cuts 1 J (vend (EM n0 h0 8) 1 (fb Tryd.f53).1.results.toList false kk) 100000 true f53t33 (f53s2 a m b n7 n8 l9) =
 (bif decide (n7 < n8) then
 (match idx l9 (i64.wrap (i64.wrap (i64.wrap (i64.wrap ((u64.wrap (i64.wrap (a + b))).fdiv ((2 : Int) ^ min (Int.toNat (1 : Int)) u64.bits)) + m) - 1) - i64.wrap ((u64.wrap (i64.wrap (n7 + n8))).fdiv ((2 : Int) ^ min (Int.toNat (1 : Int)) u64.bits)))) with
 | some _ => (match l9[(i64.wrap (i64.wrap (i64.wrap (i64.wrap ((u64.wrap (i64.wrap (a + b))).fdiv ((2 : Int) ^ min (Int.toNat (1 : Int)) u64.bits)) + m) - 1) - i64.wrap ((u64.wrap (i64.wrap (n7 + n8))).fdiv ((2 : Int) ^ min (Int.toNat (1 : Int)) u64.bits)))).toNat]? with
 | some y23 => (match idx l9 (i64.wrap ((u64.wrap (i64.wrap (n7 + n8))).fdiv ((2 : Int) ^ min (Int.toNat (1 : Int)) u64.bits))) with
 | some _ => (match l9[(i64.wrap ((u64.wrap (i64.wrap (n7 + n8))).fdiv ((2 : Int) ^ min (Int.toNat (1 : Int)) u64.bits))).toNat]? with
 | some y25 => (bif !decide (cmpN y23 y25 < 0) then
 J f53t33 (f53s2 a m b (i64.wrap (i64.wrap ((u64.wrap (i64.wrap (n7 + n8))).fdiv ((2 : Int) ^ min (Int.toNat (1 : Int)) u64.bits)) + 1)) n8 l9)
 else J f53t33 (f53s2 a m b n7 (i64.wrap ((u64.wrap (i64.wrap (n7 + n8))).fdiv ((2 : Int) ^ min (Int.toNat (1 : Int)) u64.bits))) l9))
 | none => none)
 | none => none)
 | none => none)
 | none => none)
 else J f53t39 (f53s5 a m b (i64.wrap ((u64.wrap (i64.wrap (a + b))).fdiv ((2 : Int) ^ min (Int.toNat (1 : Int)) u64.bits))) n7 (i64.wrap (i64.wrap (i64.wrap ((u64.wrap (i64.wrap (a + b))).fdiv ((2 : Int) ^ min (Int.toNat (1 : Int)) u64.bits)) + m) - n7)) l9)) := by kernel_rfl
theorem f53_3 (n1 n14 : Int) (l15 : List Nt) :
 vseg (EM n0 h0 8) f53cuts 1 J (vend (EM n0 h0 8) 1 (fb Tryd.f53).1.results.toList false kk) 100000 true f53t9 (f53s3 n1 n14 l15) =
 (bif decide (n14 < i64.wrap (n1 - 1)) then
 (match idx l15 (i64.wrap (n14 + 1)) with
 | some _ => (match l15[(i64.wrap (n14 + 1)).toNat]? with
 | some y31 => (match idx l15 n14 with
 | some _ => (match l15[n14.toNat]? with
 | some y33 => (match idx l15 n14 with
 | some _ => (match l15[n14.toNat]? with
 | some _ => (match idx (l15.set n14.toNat y31) (i64.wrap (n14 + 1)) with
 | some _ => (match (l15.set n14.toNat y31)[(i64.wrap (n14 + 1)).toNat]? with
 | some _ => J f53t9 (f53s3 n1 (i64.wrap (n14 + 1)) ((l15.set n14.toNat y31).set (i64.wrap (n14 + 1)).toNat y33))
 | none => none)
 | none => none)
 | none => none)
 | none => none)
 | none => none)
 | none => none)
 | none => none)
 | none => none)
 else kk (V.tuple []) ([Ob.arr rNote l15 false])) := by kernel_rfl
theorem f53_4 (n4 n20 : Int) (l21 : List Nt) :
 vseg (EM n0 h0 8) f53cuts 1 J (vend (EM n0 h0 8) 1 (fb Tryd.f53).1.results.toList false kk) 100000 true f53t21 (f53s4 n4 n20 l21) =
 (bif decide (n4 < n20) then
 (match idx l21 (i64.wrap (n20 - 1)) with
 | some _ => (match l21[(i64.wrap (n20 - 1)).toNat]? with
 | some y39 => (match idx l21 n20 with
 | some _ => (match l21[n20.toNat]? with
 | some y41 => (match idx l21 n20 with
 | some _ => (match l21[n20.toNat]? with
 | some _ => (match idx (l21.set n20.toNat y39) (i64.wrap (n20 - 1)) with
 | some _ => (match (l21.set n20.toNat y39)[(i64.wrap (n20 - 1)).toNat]? with
 | some _ => J f53t21 (f53s4 n4 (i64.wrap (n20 - 1)) ((l21.set n20.toNat y39).set (i64.wrap (n20 - 1)).toNat y41))
 | none => none)
 | none => none)
 | none => none)
 | none => none)
 | none => none)
 | none => none)
 | none => none)
 | none => none)
 else kk (V.tuple []) ([Ob.arr rNote l21 false])) := by kernel_rfl
theorem f53_5 (a m b n26 n27 n28 : Int) (l29 : List Nt) :
 vseg (EM n0 h0 8) f53cuts 1 J (vend (EM n0 h0 8) 1 (fb Tryd.f53).1.results.toList false kk) 100000 true f53t39 (f53s5 a m b n26 n27 n28 l29) =
 (bif decide (n27 < m) then
 (bif decide (m < n28) then
 (bif (own63 l29 n27 m n28).fst then
 J f53t41 (f53s6 a b n26 n27 n28 (rotN l29 m.toNat (m.toNat - n27.toNat) (n28.toNat - m.toNat)))
 else none)
 else J f53t41 (f53s6 a b n26 n27 n28 l29))
 else J f53t41 (f53s6 a b n26 n27 n28 l29)) := by kernel_rfl
theorem f53_6 (a b n46 n47 n48 : Int) (l49 : List Nt) :
 vseg (EM n0 h0 8) f53cuts 1 J (vend (EM n0 h0 8) 1 (fb Tryd.f53).1.results.toList false kk) 100000 true f53t41 (f53s6 a b n46 n47 n48 l49) =
 (bif decide (a < n47) then
 (bif decide (n47 < n46) then
 (bif (own53 n0 l49 a n47 n46).fst then
 J f53t43 (f53s7 b n46 n48 (symN n0 l49 a.toNat n47.toNat n46.toNat))
 else none)
 else J f53t43 (f53s7 b n46 n48 l49))
 else J f53t43 (f53s7 b n46 n48 l49)) := by kernel_rfl
theorem f53_7 (b n50 n51 : Int) (l52 : List Nt) :
 vseg (EM n0 h0 8) f53cuts 1 J (vend (EM n0 h0 8) 1 (fb Tryd.f53).1.results.toList false kk) 100000 true f53t43 (f53s7 b n50 n51 l52) =
 (bif decide (n50 < n51) then
 (bif decide (n51 < b) then
 (bif (own53 n0 l52 n50 n51 b).fst then
 kk (V.tuple []) ([Ob.arr rNote (symN n0 l52 n50.toNat n51.toNat b.toNat) false])
 else none)
 else kk (V.tuple []) ([Ob.arr rNote l52 false]))
 else kk (V.tuple []) ([Ob.arr rNote l52 false])) := by kernel_rfl
end Vm.S14
open Go Go.Proofs
namespace Vm
theorem half_nat {x y : Nat} (h : x + y < 4611686018427387904) : IntKind.wrap .i64 ((IntKind.wrap .u64 (IntKind.wrap .i64 ((x : Int) + (y : Int)))).fdiv ((2 : Int) ^ min (Int.toNat (1 : Int)) IntKind.u64.bits)) = (((x + y) / 2 : Nat) : Int) := by
 rw [wrap_add h, show IntKind.wrap .u64 ((x + y : Nat) : Int) = ((x + y : Nat) : Int) from wrap_small (by rw [show IntKind.min .u64 = 0 by decide]; omega) (by rw [show IntKind.max .u64 = 18446744073709551615 by decide]; omega),
  show (2 : Int) ^ min (Int.toNat (1 : Int)) IntKind.u64.bits = 2 by decide, Int.fdiv_eq_ediv_of_nonneg _ (by omega)]
 rw [show ((x + y : Nat) : Int) / 2 = (((x + y) / 2 : Nat) : Int) by omega]
 exact wrap64 (by omega) (by omega)
end Vm
namespace Vm.S14
variable (n0 : Nat) (h0 : Below53 n0)
noncomputable abbrev V53 {R : Type} (kk : V → List Ob → Option R) (n : Nat) (t : List Item) (s : St) : Option R := vrun (EM n0 h0 8) f53cuts 1 100000 (vend (EM n0 h0 8) 1 (fb Tryd.f53).1.results.toList false kk) n t s
variable {R : Type} (kk : V → List Ob → Option R)
theorem bs3 (l : List Nt) (a : Nat) (ha : a < l.length) (hl : l.length < 1000000000) : ∀ (d i j : Nat), j - i ≤ d → j ≤ l.length → i ≤ j → ∃ k, ∀ N, V53 n0 h0 kk (N + k) f53t3 (f53s0 a i j l) = V53 n0 h0 kk N f53t9 (f53s3 (bsL (fun h => ltN l[h]! l[a]!) i j : Nat) a l) := by
 intro d
 induction d with
 | zero =>
   intro i j hd hj hij
   refine ⟨1, fun N => ?_⟩
   unfold V53
   rw [vrun_succ, f53_0, bif_neg (by exact decide_eq_false (by omega))]
   unfold bsL
   rw [if_neg (by omega)]
 | succ d ih =>
   intro i j hd hj hij
   by_cases hlt : i < j
   ·have hm : (i + j) / 2 < l.length := by omega
    by_cases hc : ltN l[(i + j) / 2]! l[a]! = true
    ·obtain ⟨k, hk⟩ := ih ((i + j) / 2 + 1) j (by omega) hj (by omega)
     refine ⟨k + 1, fun N => ?_⟩
     have hk := hk N
     unfold V53 at hk ⊢
     rw [← Nat.add_assoc, vrun_succ, f53_0, bif_pos (by exact decide_eq_true (by omega)), half_nat (by omega)]
     simp only [idx_nat, toNat_cast, get_bang hm, get_bang ha]
     rw [bif_pos (by exact hc), wrap_succ (by omega), hk]
     conv => rhs; unfold bsL
     rw [if_pos hlt, if_pos hc]
    ·obtain ⟨k, hk⟩ := ih i ((i + j) / 2) (by omega) (by omega) (by omega)
     refine ⟨k + 1, fun N => ?_⟩
     have hk := hk N
     unfold V53 at hk ⊢
     rw [← Nat.add_assoc, vrun_succ, f53_0, bif_pos (by exact decide_eq_true (by omega)), half_nat (by omega)]
     simp only [idx_nat, toNat_cast, get_bang hm, get_bang ha]
     rw [bif_neg (by exact Bool.eq_false_iff.2 hc), hk]
     conv => rhs; unfold bsL
     rw [if_pos hlt, if_neg hc]
   ·refine ⟨1, fun N => ?_⟩
    unfold V53
    rw [vrun_succ, f53_0, bif_neg (by exact decide_eq_false (by omega))]
    unfold bsL
    rw [if_neg hlt]
theorem bs15 (l : List Nt) (m : Nat) (ha : m < l.length) (hl : l.length < 1000000000) : ∀ (d i j : Nat), j - i ≤ d → j ≤ l.length → i ≤ j → ∃ k, ∀ N, V53 n0 h0 kk (N + k) f53t15 (f53s1 m i j l) = V53 n0 h0 kk N f53t21 (f53s4 (bsL (fun h => !ltN l[m]! l[h]!) i j : Nat) m l) := by
 intro d
 induction d with
 | zero =>
   intro i j hd hj hij
   refine ⟨1, fun N => ?_⟩
   unfold V53
   rw [vrun_succ, f53_1, bif_neg (by exact decide_eq_false (by omega))]
   unfold bsL
   rw [if_neg (by omega)]
 | succ d ih =>
   intro i j hd hj hij
   by_cases hlt : i < j
   ·have hm : (i + j) / 2 < l.length := by omega
    by_cases hc : (!ltN l[m]! l[(i + j) / 2]!) = true
    ·obtain ⟨k, hk⟩ := ih ((i + j) / 2 + 1) j (by omega) hj (by omega)
     refine ⟨k + 1, fun N => ?_⟩
     have hk := hk N
     unfold V53 at hk ⊢
     rw [← Nat.add_assoc, vrun_succ, f53_1, bif_pos (by exact decide_eq_true (by omega)), half_nat (by omega)]
     simp only [idx_nat, toNat_cast, get_bang hm, get_bang ha]
     rw [bif_pos (by exact hc), wrap_succ (by omega), hk]
     conv => rhs; unfold bsL
     rw [if_pos hlt, if_pos hc]
    ·obtain ⟨k, hk⟩ := ih i ((i + j) / 2) (by omega) (by omega) (by omega)
     refine ⟨k + 1, fun N => ?_⟩
     have hk := hk N
     unfold V53 at hk ⊢
     rw [← Nat.add_assoc, vrun_succ, f53_1, bif_pos (by exact decide_eq_true (by omega)), half_nat (by omega)]
     simp only [idx_nat, toNat_cast, get_bang hm, get_bang ha]
     rw [bif_neg (by exact Bool.eq_false_iff.2 hc), hk]
     conv => rhs; unfold bsL
     rw [if_pos hlt, if_neg hc]
   ·refine ⟨1, fun N => ?_⟩
    unfold V53
    rw [vrun_succ, f53_1, bif_neg (by exact decide_eq_false (by omega))]
    unfold bsL
    rw [if_neg hlt]
theorem bs33 (l : List Nt) (a m b : Nat) (ham : a < m) (hmb : m < b) (hb : b ≤ l.length) (hl : l.length < 1000000000) : ∀ (d i j : Nat), j - i ≤ d → i ≤ j → (∀ c, i ≤ c → c < j → c < l.length ∧ c < (a + b) / 2 + m ∧ (a + b) / 2 + m - 1 - c < l.length) → j ≤ (a + b) / 2 + m →
  ∃ k, ∀ N, V53 n0 h0 kk (N + k) f53t33 (f53s2 a m b i j l) = V53 n0 h0 kk N f53t39 (f53s5 a m b ((a + b) / 2 : Nat) (bsL (fun c => !ltN l[(a + b) / 2 + m - 1 - c]! l[c]!) i j : Nat) ((a + b) / 2 + m - bsL (fun c => !ltN l[(a + b) / 2 + m - 1 - c]! l[c]!) i j : Nat) l) := by
 have fin : ∀ (i j : Nat), ¬ i < j → i ≤ (a + b) / 2 + m → ∀ N, V53 n0 h0 kk (N + 1) f53t33 (f53s2 a m b i j l) = V53 n0 h0 kk N f53t39 (f53s5 a m b ((a + b) / 2 : Nat) (bsL (fun c => !ltN l[(a + b) / 2 + m - 1 - c]! l[c]!) i j : Nat) ((a + b) / 2 + m - bsL (fun c => !ltN l[(a + b) / 2 + m - 1 - c]! l[c]!) i j : Nat) l) := by
  intro i j hn hi N
  unfold V53
  rw [vrun_succ, f53_2, bif_neg (by exact decide_eq_false (by omega)), half_nat (by omega), wrap_add (by omega), wrap_sub hi (by omega)]
  unfold bsL
  rw [if_neg hn]
 intro d
 induction d with
 | zero => intro i j hd hij hc hj; exact ⟨1, fin i j (by omega) (by omega)⟩
 | succ d ih =>
   intro i j hd hij hcs hj
   by_cases hlt : i < j
   ·obtain ⟨q1, q2, q3⟩ := hcs ((i + j) / 2) (by omega) (by omega)
    have step : ∀ N, V53 n0 h0 kk (N + 1) f53t33 (f53s2 a m b i j l) = bif !ltN l[(a + b) / 2 + m - 1 - (i + j) / 2]! l[(i + j) / 2]! then V53 n0 h0 kk N f53t33 (f53s2 a m b ((i + j) / 2 + 1 : Nat) j l) else V53 n0 h0 kk N f53t33 (f53s2 a m b i ((i + j) / 2 : Nat) l) := by
     intro N
     unfold V53
     rw [vrun_succ, f53_2, bif_pos (by exact decide_eq_true (by omega)), half_nat (by omega : a + b < _), half_nat (by omega : i + j < _), wrap_add (by omega), show IntKind.wrap .i64 ((((a + b) / 2 + m : Nat) : Int) - 1) = (((a + b) / 2 + m - 1 : Nat) : Int) from by
      have := wrap_sub (a := (a + b) / 2 + m) (b := 1) (by omega) (by omega); exact this, wrap_sub (by omega : (i + j) / 2 ≤ (a + b) / 2 + m - 1) (by omega)]
     simp only [idx_nat, toNat_cast, get_bang q1, get_bang q3]
     rw [wrap_succ (by omega)]
     rfl
    by_cases hc : (!ltN l[(a + b) / 2 + m - 1 - (i + j) / 2]! l[(i + j) / 2]!) = true
    ·obtain ⟨k, hk⟩ := ih ((i + j) / 2 + 1) j (by omega) (by omega) (fun c h1 h2 => hcs c (by omega) h2) hj
     refine ⟨k + 1, fun N => ?_⟩
     rw [← Nat.add_assoc, step, hc, cond_true, hk N]
     conv => rhs; unfold bsL
     simp only [hlt, if_true, hc]
    ·obtain ⟨k, hk⟩ := ih i ((i + j) / 2) (by omega) (by omega) (fun c h1 h2 => hcs c h1 (by omega)) (by omega)
     refine ⟨k + 1, fun N => ?_⟩
     rw [← Nat.add_assoc, step, Bool.eq_false_iff.2 hc, cond_false, hk N]
     conv => rhs; unfold bsL
     simp only [hlt, if_true, hc, if_false]
     rfl
   ·exact ⟨1, fin i j hlt (by omega)⟩
end Vm.S14
open Go Go.Proofs
namespace Vm.S14
variable (n0 : Nat) (h0 : Below53 n0)
variable {R : Type} (kk : V → List Ob → Option R)
theorem up9 (e : Nat) : ∀ (d i : Nat) (l : List Nt), e - i = d → e < l.length → l.length < 1000000000 → ∃ k, V53 n0 h0 kk k f53t9 (f53s3 ((e + 1 : Nat) : Int) i l) = kk (.tuple []) [.arr rNote (upL e i l : List Nt) false] := by
 intro d
 induction d with
 | zero =>
   intro i l hd he hl
   refine ⟨1, ?_⟩
   unfold V53
   rw [vrun_succ, f53_3, wrap_pred (by omega), bif_neg (by exact decide_eq_false (by omega))]
   unfold upL
   rw [if_neg (by omega)]
 | succ d ih =>
   intro i l hd he hl
   obtain ⟨k, hk⟩ := ih (i + 1) (swL l i (i + 1)) (by omega) (by rw [swL_len]; exact he) (by rw [swL_len]; exact hl)
   refine ⟨k + 1, ?_⟩
   unfold V53 at hk ⊢
   rw [vrun_succ, f53_3, wrap_pred (by omega), bif_pos (by exact decide_eq_true (by omega)), wrap_succ (by omega)]
   simp only [idx_nat, toNat_cast, get_bang (show i + 1 < l.length by omega), get_bang (show i < l.length by omega)]
   rw [get_bang (show i + 1 < (l.set i l[i + 1]!).length by simp; omega)]
   dsimp only
   conv => rhs; unfold upL
   rw [if_pos (show i < e by omega)]
   exact hk
theorem down21 (i : Nat) : ∀ (k : Nat) (l : List Nt), k < l.length → l.length < 1000000000 → ∃ N, V53 n0 h0 kk N f53t21 (f53s4 i k l) = kk (.tuple []) [.arr rNote (downL i k l : List Nt) false] := by
 intro k
 induction k with
 | zero =>
   intro l hk hl
   refine ⟨1, ?_⟩
   unfold V53
   rw [vrun_succ, f53_4, bif_neg (by exact decide_eq_false (by omega))]
   rfl
 | succ k ih =>
   intro l hk hl
   by_cases h : i < k + 1
   ·obtain ⟨N, hN⟩ := ih (swL l (k + 1) k) (by rw [swL_len]; omega) (by rw [swL_len]; exact hl)
    refine ⟨N + 1, ?_⟩
    unfold V53 at hN ⊢
    rw [vrun_succ, f53_4, bif_pos (by exact decide_eq_true (by omega)), wrap_pred (by omega)]
    simp only [idx_nat, toNat_cast, get_bang hk, get_bang (show k < l.length by omega)]
    rw [get_bang (show k < (l.set (k + 1) l[k]!).length by simp; omega)]
    dsimp only
    have e : (downL i (k + 1) l : List Nt) = downL i k (swL l (k + 1) k) := by
     show (if _ then _ else _) = _
     rw [if_pos h]
    rw [e]
    exact hN
   ·refine ⟨1, ?_⟩
    unfold V53
    rw [vrun_succ, f53_4, bif_neg (by exact decide_eq_false (by omega))]
    have e : (downL i (k + 1) l : List Nt) = l := by
     show (if _ then _ else _) = _
     rw [if_neg h]
    rw [e]
theorem rotN_len : ∀ (s m i j : Nat) (l : List Nt), i + j ≤ s → (rotN l m i j).length = l.length := by
 intro s
 induction s with
 | zero =>
   intro m i j l h
   unfold rotN rotL
   have : i = j := by omega
   rw [if_pos this]
   exact swN_len l _ _ _
 | succ s ih =>
   intro m i j l h
   unfold rotN rotL
   split
   ·exact swN_len l _ _ _
   ·split
    ·rfl
    ·split
     ·have := ih m (i - j) j (swN l (m - i) m j) (by omega)
      rw [swN_len] at this
      exact this
     ·have := ih m i (j - i) (swN l (m - i) (m + j - i) i) (by omega)
      rw [swN_len] at this
      exact this
theorem upL_len (e : Nat) : ∀ (d i : Nat) (l : List Nt), e - i = d → (upL e i l).length = l.length := by
 intro d
 induction d with
 | zero => intro i l h; unfold upL; rw [if_neg (by omega)]
 | succ d ih => intro i l h; unfold upL; rw [if_pos (by omega), ih (i + 1) _ (by omega), swL_len]
theorem downL_len (i : Nat) : ∀ (k : Nat) (l : List Nt), (downL i k l).length = l.length
 | 0, l => rfl
 | k + 1, l => by
   show (if _ then _ else _ : List Nt).length = _
   split
   ·rw [downL_len i k, swL_len]
   ·rfl
theorem symN_len : ∀ (n : Nat) (l : List Nt) (a m b : Nat), (symN n l a m b).length = l.length
 | 0, l, a, m, b => rfl
 | n + 1, l, a, m, b => by
   have ih := symN_len n
   unfold symN at ih ⊢
   unfold symM
   split
   ·exact upL_len _ _ _ _ rfl
   ·split
    ·exact downL_len _ _ _
    ·dsimp only
     have hr : ∀ (l : List Nt) (m i j : Nat), (rotL m i j l).length = l.length := fun l m i j => rotN_len _ m i j l (Nat.le_refl _)
     repeat' split
     all_goals simp only [ih, hr]
theorem bsL_bounds (c : Nat → Bool) (i j : Nat) (h : i ≤ j) : i ≤ bsL c i j ∧ bsL c i j ≤ j := by
 have : ∀ (d i j : Nat), j - i ≤ d → i ≤ j → i ≤ bsL c i j ∧ bsL c i j ≤ j := by
  intro d
  induction d with
  | zero => intro i j hd hij; unfold bsL; rw [if_neg (by omega)]; omega
  | succ d ih =>
    intro i j hd hij
    unfold bsL
    split
    ·split
     ·have := ih ((i + j) / 2 + 1) j (by omega) (by omega); omega
     ·have := ih i ((i + j) / 2) (by omega) (by omega); omega
    ·omega
 exact this (j - i) i j (Nat.le_refl _) h
theorem f53_run (n0 : Nat) (h0 : Below53 n0) (l : List Nt) (a m b : Nat) (ham : a < m) (hmb : m < b) (hb : b ≤ l.length) (hl : l.length < 1000000000) (hn : b - a ≤ n0 + 1) :
  ∃ N, vrun (EM n0 h0 8) f53cuts 1 100000 (vend (EM n0 h0 8) 1 (fb Tryd.f53).1.results.toList false kk) N [.code (fb Tryd.f53).2] (start [.own 0, .int .i64 a, .int .i64 m, .int .i64 b, .fn 32 [] []] [.arr rNote l false]) = kk (.tuple []) [.arr rNote (symN (n0 + 1) l a m b) false] := by
 have go : ∀ N r, ((bif decide (IntKind.i64.wrap ((m : Int) - (a : Int)) = (1 : Int)) then V53 n0 h0 kk N f53t3 (f53s0 a m b l)
   else (bif decide (IntKind.i64.wrap ((b : Int) - (m : Int)) = (1 : Int)) then V53 n0 h0 kk N f53t15 (f53s1 m a m l)
    else (bif decide ((((a + b) / 2 : Nat) : Int) < m) then V53 n0 h0 kk N f53t33 (f53s2 a m b (((a + b) / 2 + m - b : Nat) : Int) (((a + b) / 2 : Nat) : Int) l)
     else V53 n0 h0 kk N f53t33 (f53s2 a m b a m l)))) = r) →
   vrun (EM n0 h0 8) f53cuts 1 100000 (vend (EM n0 h0 8) 1 (fb Tryd.f53).1.results.toList false kk) (N + 1) [.code (fb Tryd.f53).2] (start [.own 0, .int .i64 a, .int .i64 m, .int .i64 b, .fn 32 [] []] [.arr rNote l false]) = r := by
  intro N r h
  rw [vrun_succ]
  refine (f53_go n0 h0 _ kk l a m b).trans ?_
  rw [← h, half_nat (by omega : a + b < _), wrap_add (by omega : (a + b) / 2 + m < _)]
  by_cases hb' : b ≤ (a + b) / 2 + m
  ·rw [wrap_sub hb' (by omega)]
  ·have : ¬ (((a + b) / 2 : Nat) : Int) < m := by omega
   rw [decide_eq_false this]
   rfl
 have rest : ∀ (i j : Nat), j - i ≤ j → i ≤ j → (∀ c, i ≤ c → c < j → c < l.length ∧ c < (a + b) / 2 + m ∧ (a + b) / 2 + m - 1 - c < l.length) → j ≤ (a + b) / 2 + m → a ≤ i → j ≤ m → j ≤ (a + b) / 2 → (a + b) / 2 + m - b ≤ i →
   ∃ N, V53 n0 h0 kk N f53t33 (f53s2 a m b i j l) = kk (.tuple []) [.arr rNote (
     let mid := (a + b) / 2
     let s := bsL (fun c => !ltN l[mid + m - 1 - c]! l[c]!) i j
     let e := mid + m - s
     let l1 := if s < m ∧ m < e then rotN l m (m - s) (e - m) else l
     let l2 := if a < s ∧ s < mid then symN n0 l1 a s mid else l1
     (if mid < e ∧ e < b then symN n0 l2 mid e b else l2 : List Nt)) false] := by
  intro i j h1 h2 h3 h4 h5 h6 h7 h8
  obtain ⟨k, hk⟩ := bs33 n0 h0 kk l a m b ham hmb hb hl (j - i) i j (Nat.le_refl _) h2 h3 h4
  refine ⟨1 + 1 + 1 + k, ?_⟩
  rw [hk]
  obtain ⟨g1, g2⟩ := bsL_bounds (fun c => !ltN l[(a + b) / 2 + m - 1 - c]! l[c]!) i j h2
  dsimp only
  generalize bsL (fun c => !ltN l[(a + b) / 2 + m - 1 - c]! l[c]!) i j = s at g1 g2 ⊢
  have s1 : ∀ N, V53 n0 h0 kk (N + 1) f53t39 (f53s5 a m b ((a + b) / 2 : Nat) s ((a + b) / 2 + m - s : Nat) l) = V53 n0 h0 kk N f53t41 (f53s6 a b ((a + b) / 2 : Nat) s ((a + b) / 2 + m - s : Nat) (if s < m ∧ m < (a + b) / 2 + m - s then rotN l m (m - s) ((a + b) / 2 + m - s - m) else l)) := by
   intro N
   unfold V53
   rw [vrun_succ, f53_5]
   by_cases c1 : s < m
   ·rw [bif_pos (by exact decide_eq_true (by omega))]
    by_cases c2 : m < (a + b) / 2 + m - s
    ·rw [bif_pos (by exact decide_eq_true (by omega)), bif_pos (by exact decide_eq_true (by simp only [Int.toNat_natCast]; omega)), if_pos ⟨c1, c2⟩]
     simp only [Int.toNat_natCast]
    ·rw [bif_neg (by exact decide_eq_false (by omega)), if_neg (fun h => c2 h.2)]
   ·rw [bif_neg (by exact decide_eq_false (by omega)), if_neg (fun h => c1 h.1)]
  have hl1 : (if s < m ∧ m < (a + b) / 2 + m - s then rotN l m (m - s) ((a + b) / 2 + m - s - m) else l).length = l.length := by
   split
   ·exact rotN_len _ _ _ _ _ (Nat.le_refl _)
   ·rfl
  generalize (if s < m ∧ m < (a + b) / 2 + m - s then rotN l m (m - s) ((a + b) / 2 + m - s - m) else l) = l1 at s1 hl1 ⊢
  have s2 : ∀ N, V53 n0 h0 kk (N + 1) f53t41 (f53s6 a b ((a + b) / 2 : Nat) s ((a + b) / 2 + m - s : Nat) l1) = V53 n0 h0 kk N f53t43 (f53s7 b ((a + b) / 2 : Nat) ((a + b) / 2 + m - s : Nat) (if a < s ∧ s < (a + b) / 2 then symN n0 l1 a s ((a + b) / 2) else l1)) := by
   intro N
   unfold V53
   rw [vrun_succ, f53_6]
   by_cases c1 : a < s
   ·rw [bif_pos (by exact decide_eq_true (by omega))]
    by_cases c2 : s < (a + b) / 2
    ·rw [bif_pos (by exact decide_eq_true (by omega)), bif_pos (by exact decide_eq_true (by simp only [Int.toNat_natCast]; omega)), if_pos ⟨c1, c2⟩]
     simp only [Int.toNat_natCast]
    ·rw [bif_neg (by exact decide_eq_false (by omega)), if_neg (fun h => c2 h.2)]
   ·rw [bif_neg (by exact decide_eq_false (by omega)), if_neg (fun h => c1 h.1)]
  have hl2 : (if a < s ∧ s < (a + b) / 2 then symN n0 l1 a s ((a + b) / 2) else l1).length = l.length := by
   split
   ·rw [symN_len]; exact hl1
   ·exact hl1
  generalize (if a < s ∧ s < (a + b) / 2 then symN n0 l1 a s ((a + b) / 2) else l1) = l2 at s2 hl2 ⊢
  rw [s1, s2]
  unfold V53
  rw [show 1 = 0 + 1 from rfl, vrun_succ, f53_7]
  by_cases c1 : (a + b) / 2 < (a + b) / 2 + m - s
  ·rw [bif_pos (by exact decide_eq_true (by omega))]
   by_cases c2 : (a + b) / 2 + m - s < b
   ·rw [bif_pos (by exact decide_eq_true (by omega)), bif_pos (by exact decide_eq_true (by simp only [Int.toNat_natCast]; omega)), if_pos ⟨c1, c2⟩]
    simp only [Int.toNat_natCast]
   ·rw [bif_neg (by exact decide_eq_false (by omega)), if_neg (fun h => c2 h.2)]
  ·rw [bif_neg (by exact decide_eq_false (by omega)), if_neg (fun h => c1 h.1)]
 have es : ∀ r, symN (n0 + 1) l a m b = r ↔ symM ltN (n0 + 1) l a m b = r := fun r => Iff.rfl
 by_cases c1 : m - a = 1
 ·obtain ⟨k1, h1⟩ := bs3 n0 h0 kk l a (by omega) hl (b - m) m b (Nat.le_refl _) hb (by omega)
  have hs := bsL_bounds (fun h => ltN l[h]! l[a]!) m b (by omega)
  obtain ⟨k2, h2⟩ := up9 n0 h0 kk (bsL (fun h => ltN l[h]! l[a]!) m b - 1) _ a l rfl (by omega) hl
  refine ⟨k2 + k1 + 1, go _ _ ?_⟩
  rw [bif_pos (by rw [wrap_sub (by omega) (by omega)]; exact decide_eq_true (by omega)), h1]
  rw [show bsL (fun h => ltN l[h]! l[a]!) m b - 1 + 1 = bsL (fun h => ltN l[h]! l[a]!) m b by omega] at h2
  rw [h2]
  have : symN (n0 + 1) l a m b = upL (bsL (fun h => ltN l[h]! l[a]!) m b - 1) a l := by
   unfold symN symM
   rw [if_pos c1]
  rw [this]
 ·by_cases c2 : b - m = 1
  ·obtain ⟨k1, h1⟩ := bs15 n0 h0 kk l m (by omega) hl (m - a) a m (Nat.le_refl _) (by omega) (by omega)
   obtain ⟨k2, h2⟩ := down21 n0 h0 kk (bsL (fun h => !ltN l[m]! l[h]!) a m) m l (by omega) hl
   refine ⟨k2 + k1 + 1, go _ _ ?_⟩
   rw [bif_neg (by rw [wrap_sub (by omega) (by omega)]; exact decide_eq_false (by omega)), bif_pos (by rw [wrap_sub (by omega) (by omega)]; exact decide_eq_true (by omega)), h1, h2]
   have : symN (n0 + 1) l a m b = downL (bsL (fun h => !ltN l[m]! l[h]!) a m) m l := by
    unfold symN symM
    rw [if_neg c1, if_pos c2]
   rw [this]
  ·have e3 : symN (n0 + 1) l a m b = (
       let mid := (a + b) / 2
       let s := bsL (fun c => !ltN l[mid + m - 1 - c]! l[c]!) (if m > mid then mid + m - b else a) (if m > mid then mid else m)
       let e := mid + m - s
       let l1 := if s < m ∧ m < e then rotN l m (m - s) (e - m) else l
       let l2 := if a < s ∧ s < mid then symN n0 l1 a s mid else l1
       if mid < e ∧ e < b then symN n0 l2 mid e b else l2) := by
     conv => lhs; unfold symN symM
     rw [if_neg c1, if_neg c2]
     rfl
   rw [e3]
   by_cases c3 : (a + b) / 2 < m
   ·obtain ⟨N, hN⟩ := rest ((a + b) / 2 + m - b) ((a + b) / 2) (by omega) (by omega) (fun c h1 h2 => by omega) (by omega) (by omega) (by omega) (Nat.le_refl _) (Nat.le_refl _)
    refine ⟨N + 1, go _ _ ?_⟩
    rw [bif_neg (by rw [wrap_sub (by omega) (by omega)]; exact decide_eq_false (by omega)), bif_neg (by rw [wrap_sub (by omega) (by omega)]; exact decide_eq_false (by omega)), bif_pos (by exact decide_eq_true (by omega)), hN]
    dsimp only
    rw [if_pos (show m > (a + b) / 2 from c3), if_pos (show m > (a + b) / 2 from c3)]
   ·obtain ⟨N, hN⟩ := rest a m (by omega) (by omega) (fun c h1 h2 => by omega) (by omega) (Nat.le_refl _) (Nat.le_refl _) (by omega) (by omega)
    refine ⟨N + 1, go _ _ ?_⟩
    rw [bif_neg (by rw [wrap_sub (by omega) (by omega)]; exact decide_eq_false (by omega)), bif_neg (by rw [wrap_sub (by omega) (by omega)]; exact decide_eq_false (by omega)), bif_neg (by exact decide_eq_false (by omega)), hN]
    dsimp only
    rw [if_neg (show ¬ m > (a + b) / 2 from c3), if_neg (show ¬ m > (a + b) / 2 from c3)]
end Vm.S14
open Go Go.Proofs
namespace Vm.S14
theorem below53 : ∀ n0, Below53 n0
 | 0 => fun l a m b h1 h2 h3 h4 h5 => by omega
 | n0 + 1 => fun l a m b h1 h2 h3 h4 h5 => by
   have h0 := below53 n0
   obtain ⟨N, hN⟩ := f53_run (fun v os => some (v, os)) n0 h0 l a m b h1 h2 h3 h4 h5
   exact ps_contract (readyM n0 h0 8) (glEM n0 h0 8) (fn := (fb Tryd.f53).1) (c := (fb Tryd.f53).2) Tryd.func53 (by kernel_rfl) (by kernel_rfl) (by decide) (rfOk_no (by kernel_rfl)) hN (show 1 ≤ 1 by decide)
noncomputable def f53e : Entry Tryd.prog gls where
 f := 53
 g := fun args os => match args, os with
   | [.own 0, .int .i64 a, .int .i64 m, .int .i64 b, .fn 32 [] []], [.arr r l false] => match Ks.eqp r rNote with
     | some ⟨h⟩ => some (own53 (Ks.cast h l).length (Ks.cast h l) a m b)
     | none => none
   | _, _ => none
 says := by
  intro args os c v os' h hc
  split at h
  ·split at h
   ·rename_i _ e _
    subst e
    cases h
    exact own53_con (below53 _) _ _ _ _ hc
   ·cases h
  ·cases h
noncomputable def es6 : List (Entry Tryd.prog gls) := [f53e] ++ es5
noncomputable def E6 (n : Nat) : Env := interp fns (look tys) gls mvs (tabOf es6) 100000 n
theorem ready6 (n : Nat) : Ready Tryd.prog (E6 n) := ready_of mixed fnsAll tysOk rfsOk n
theorem glE6 (n : Nat) : (E6 n).gl = gls := by cases n <;> rfl
end Vm.S14
open Go Go.Proofs Go.IntKind
namespace Vm.S14
variable {R : Type} (J : List Item → St → Option R) (kk : V → List Ob → Option R)
noncomputable abbrev f43cuts : Cuts := look [(2, [0, 1, 2, 6, 7, 8]), (7, [0, 1, 2, 6]), (9, [0, 1, 2, 6, 7, 8])]
noncomputable abbrev f43t9 : List Item := itemsAt (fb Tryd.f43).2 9
noncomputable abbrev f43t7 : List Item := itemsAt (fb Tryd.f43).2 7
noncomputable abbrev f43t2 : List Item := itemsAt (fb Tryd.f43).2 2
def f43s0 (n n1 n2 : Int) (l3 : List Nt) : St := { fr := [(0, V.own 0), (1, V.int i64 n), (2, V.fn 32 [] []), (6, V.int i64 (20 : Int)), (7, V.int i64 n1), (8, V.int i64 n2)], hp := [(0, Ob.arr rNote l3 false)], nx := 1 }
def f43s1 (n n4 : Int) (l5 : List Nt) : St := { fr := [(0, V.own 0), (1, V.int i64 n), (2, V.fn 32 [] []), (6, V.int i64 n4)], hp := [(0, Ob.arr rNote l5 false)], nx := 1 }
def f43s2 (n n4 n6 n7 : Int) (l8 : List Nt) : St := { fr := [(0, V.own 0), (1, V.int i64 n), (2, V.fn 32 [] []), (6, V.int i64 n4), (7, V.int i64 n6), (8, V.int i64 n7)], hp := [(0, Ob.arr rNote l8 false)], nx := 1 }
noncomputable abbrev k43 {Q : Type} (k : V → List Ob → Option Q) := vend (E6 8) 1 (fb Tryd.f43).1.results.toList false k
theorem f43_go (l : List Nt) (n : Int) :
 vseg (E6 8) f43cuts 1 J (k43 kk) 100000 true [.code (fb Tryd.f43).2] (start ([V.own (0 : Nat), V.int i64 n, V.fn (32 : Nat) [] []]) ([Ob.arr rNote l false])) =
 J f43t2 (f43s0 n (0 : Int) (20 : Int) l) := by kernel_rfl
theorem f43_0 (n n1 n2 : Int) (l3 : List Nt) :
 vseg (E6 8) f43cuts 1 J (k43 kk) 100000 true f43t2 (f43s0 n n1 n2 l3) =
 (bif decide (n2 ≤ n) then
 (bif (own52 l3 n1 n2).fst then
 J f43t2 (f43s0 n n2 (i64.wrap (n2 + 20)) (insN l3 n1.toNat n2.toNat))
 else none)
 else (bif (own52 l3 n1 n).fst then
 J f43t7 (f43s1 n (20 : Int) (insN l3 n1.toNat n.toNat))
 else none)) := by kernel_rfl
theorem f43_1 (n n4 : Int) (l5 : List Nt) :
 vseg (E6 8) f43cuts 1 J (k43 kk) 100000 true f43t7 (f43s1 n n4 l5) =
 (bif decide (n4 < n) then
 J f43t9 (f43s2 n n4 (0 : Int) (i64.wrap ((2 : Int) * n4)) l5)
 else kk (V.tuple []) ([Ob.arr rNote l5 false])) := by kernel_rfl
theorem f43_2 (n n4 n6 n7 : Int) (l8 : List Nt) :
 vseg (E6 8) f43cuts 1 J (k43 kk) 100000 true f43t9 (f43s2 n n4 n6 n7 l8) =
 (bif decide (n7 ≤ n) then
 (bif (own53 l8.length l8 n6 (i64.wrap (n6 + n4)) n7).fst then
 J f43t9 (f43s2 n n4 n7 (i64.wrap (n7 + i64.wrap ((2 : Int) * n4))) (symN l8.length l8 n6.toNat (i64.wrap (n6 + n4)).toNat n7.toNat))
 else none)
 else (bif decide (i64.wrap (n6 + n4) < n) then
 (bif (own53 l8.length l8 n6 (i64.wrap (n6 + n4)) n).fst then
 J f43t7 (f43s1 n (i64.wrap (n4 * 2)) (symN l8.length l8 n6.toNat (i64.wrap (n6 + n4)).toNat n.toNat))
 else none)
 else J f43t7 (f43s1 n (i64.wrap (n4 * 2)) l8))) := by kernel_rfl
end Vm.S14
open Go Go.Proofs
namespace Vm.S14
theorem insN_len (l : List Nt) (a b : Nat) : (insN l a b).length = l.length := by
 have : ∀ (d i : Nat) (l : List Nt), b - i = d → (insOut ltN a b i l).length = l.length := by
  intro d
  induction d with
  | zero => intro i l h; unfold insOut; rw [if_neg (by omega)]
  | succ d ih => intro i l h; unfold insOut; rw [if_pos (by omega), ih (i + 1) _ (by omega), insIn_len]
 exact this _ (a + 1) l rfl
section
variable {R : Type} (kk : V → List Ob → Option R)
noncomputable abbrev V43 (n : Nat) (t : List Item) (s : St) : Option R := vrun (E6 8) f43cuts 1 100000 (k43 kk) n t s
theorem f43_merge (L bs : Nat) (hL : L < 1000000000) (hbs : 0 < bs) (hbl : bs < L) (G : List Nt → Prop) (r : List Nt → Option R) (hr : ∀ l : List Nt, l.length = L → ∃ k, V43 kk k f43t7 (f43s1 (L : Int) ((2 * bs : Nat) : Int) l) = r l) : ∀ (d a : Nat) (l : List Nt), L - a ≤ d → a ≤ L → l.length = L →
  ∃ k, V43 kk k f43t9 (f43s2 L bs a ((a + 2 * bs : Nat) : Int) l) = r (mergeP ltN L bs L a l) := by
 intro d
 induction d with
 | zero =>
   intro a l hd ha hl
   have e : mergeP ltN L bs L a l = l := by
    unfold mergeP
    rw [if_neg (by omega), if_neg (by omega), if_neg (by omega)]
   obtain ⟨k, hk⟩ := hr l hl
   refine ⟨k + 1, ?_⟩
   unfold V43 at hk ⊢
   rw [vrun_succ, f43_2, bif_neg (by exact decide_eq_false (by omega)), wrap_add (by omega), bif_neg (by exact decide_eq_false (by omega)), e, show (bs : Int) * 2 = ((2 * bs : Nat) : Int) by omega, show IntKind.wrap .i64 ((2 * bs : Nat) : Int) = ((2 * bs : Nat) : Int) from wrap64 (by omega) (by omega), hk]
 | succ d ih =>
   intro a l hd ha hl
   by_cases c1 : a + 2 * bs ≤ L
   ·have e : mergeP ltN L bs L a l = mergeP ltN L bs L (a + 2 * bs) (symM ltN L l a (a + bs) (a + 2 * bs)) := by
      conv => lhs; unfold mergeP
      rw [if_neg (by omega), if_pos c1]
    obtain ⟨k, hk⟩ := ih (a + 2 * bs) (symN L l a (a + bs) (a + 2 * bs)) (by omega) c1 (by rw [symN_len]; exact hl)
    refine ⟨k + 1, ?_⟩
    unfold V43 at hk ⊢
    rw [vrun_succ, f43_2, bif_pos (by exact decide_eq_true (by omega)), wrap_add (by omega), bif_pos (by exact decide_eq_true (by simp only [Int.toNat_natCast]; omega)), show (2 : Int) * (bs : Int) = ((2 * bs : Nat) : Int) by omega, show IntKind.wrap .i64 ((2 * bs : Nat) : Int) = ((2 * bs : Nat) : Int) from wrap64 (by omega) (by omega), wrap_add (by omega)]
    simp only [Int.toNat_natCast, hl]
    rw [hk, e]
    rfl
   ·by_cases c2 : a + bs < L
    ·have e : mergeP ltN L bs L a l = symM ltN L l a (a + bs) L := by
       unfold mergeP
       rw [if_neg (by omega), if_neg c1, if_pos c2]
     obtain ⟨k, hk⟩ := hr (symN L l a (a + bs) L) (by rw [symN_len]; exact hl)
     refine ⟨k + 1, ?_⟩
     unfold V43 at hk ⊢
     rw [vrun_succ, f43_2, bif_neg (by exact decide_eq_false (by omega)), wrap_add (by omega), bif_pos (by exact decide_eq_true (by omega)), bif_pos (by exact decide_eq_true (by simp only [Int.toNat_natCast]; omega)), show (bs : Int) * 2 = ((2 * bs : Nat) : Int) by omega, show IntKind.wrap .i64 ((2 * bs : Nat) : Int) = ((2 * bs : Nat) : Int) from wrap64 (by omega) (by omega)]
     simp only [Int.toNat_natCast, hl]
     rw [hk, e]
     rfl
    ·have e : mergeP ltN L bs L a l = l := by
       unfold mergeP
       rw [if_neg (by omega), if_neg c1, if_neg c2]
     obtain ⟨k, hk⟩ := hr l hl
     refine ⟨k + 1, ?_⟩
     unfold V43 at hk ⊢
     rw [vrun_succ, f43_2, bif_neg (by exact decide_eq_false (by omega)), wrap_add (by omega), bif_neg (by exact decide_eq_false (by omega)), e, show (bs : Int) * 2 = ((2 * bs : Nat) : Int) by omega, show IntKind.wrap .i64 ((2 * bs : Nat) : Int) = ((2 * bs : Nat) : Int) from wrap64 (by omega) (by omega), hk]
theorem f43_sort (L : Nat) (hL : L < 1000000000) : ∀ (d bs : Nat) (l : List Nt), L - bs ≤ d → 0 < bs → bs < 2000000000 → l.length = L → ∃ k, V43 kk k f43t7 (f43s1 L bs l) = kk (.tuple []) [.arr rNote (sortP ltN L L bs l : List Nt) false] := by
 intro d
 induction d with
 | zero =>
   intro bs l hd hb hb' hl
   refine ⟨1, ?_⟩
   unfold V43
   rw [vrun_succ, f43_1, bif_neg (by exact decide_eq_false (by omega))]
   unfold sortP
   rw [if_neg (by omega), if_neg (by omega)]
 | succ d ih =>
   intro bs l hd hb hb' hl
   by_cases h : bs < L
   ·obtain ⟨k, hk⟩ := f43_merge kk L bs hL hb h (fun _ => True) (fun l => kk (.tuple []) [.arr rNote (sortP ltN L L (2 * bs) l : List Nt) false]) (fun l hl => ih (2 * bs) l (by omega) (by omega) (by omega) hl) L 0 l (by omega) (by omega) hl
    refine ⟨k + 1, ?_⟩
    unfold V43 at hk ⊢
    rw [Nat.zero_add] at hk
    rw [vrun_succ, f43_1, bif_pos (by exact decide_eq_true (by omega)), show (2 : Int) * (bs : Int) = ((2 * bs : Nat) : Int) by omega, show IntKind.wrap .i64 ((2 * bs : Nat) : Int) = ((2 * bs : Nat) : Int) from wrap64 (by omega) (by omega)]
    conv => rhs; unfold sortP
    rw [if_neg (by omega), if_pos h]
    exact hk
   ·refine ⟨1, ?_⟩
    unfold V43
    rw [vrun_succ, f43_1, bif_neg (by exact decide_eq_false (by omega))]
    unfold sortP
    rw [if_neg (by omega), if_neg h]
theorem f43_blocks (L : Nat) (hL : L < 800000000) (r : List Nt → Option R) (hr : ∀ l : List Nt, l.length = L → ∃ k, V43 kk k f43t7 (f43s1 (L : Int) 20 l) = r l) : ∀ (d a : Nat) (l : List Nt), L - a ≤ d → a ≤ L → l.length = L → ∃ k, V43 kk k f43t2 (f43s0 L a ((a + 20 : Nat) : Int) l) = r (blocksL ltN L a l) := by
 intro d
 induction d with
 | zero =>
   intro a l hd ha hl
   have e : blocksL ltN L a l = insL ltN l a L := by
    unfold blocksL
    rw [if_neg (by omega)]
   obtain ⟨k, hk⟩ := hr (insN l a L) (by rw [insN_len]; exact hl)
   refine ⟨k + 1, ?_⟩
   unfold V43 at hk ⊢
   rw [vrun_succ, f43_0, bif_neg (by exact decide_eq_false (by omega)), bif_pos (by exact decide_eq_true (by simp only [Int.toNat_natCast]; omega))]
   simp only [Int.toNat_natCast]
   rw [hk, e]
   rfl
 | succ d ih =>
   intro a l hd ha hl
   by_cases h : a + 20 ≤ L
   ·have e : blocksL ltN L a l = blocksL ltN L (a + 20) (insL ltN l a (a + 20)) := by
      conv => lhs; unfold blocksL
      rw [if_pos h]
    obtain ⟨k, hk⟩ := ih (a + 20) (insN l a (a + 20)) (by omega) h (by rw [insN_len]; exact hl)
    refine ⟨k + 1, ?_⟩
    unfold V43 at hk ⊢
    rw [vrun_succ, f43_0, bif_pos (by exact decide_eq_true (by omega)), bif_pos (by exact decide_eq_true (by simp only [Int.toNat_natCast]; omega)), show IntKind.wrap .i64 (((a + 20 : Nat) : Int) + 20) = ((a + 20 + 20 : Nat) : Int) from wrap_add (a := a + 20) (b := 20) (by omega)]
    simp only [Int.toNat_natCast]
    rw [hk, e]
    rfl
   ·have e : blocksL ltN L a l = insL ltN l a L := by
      unfold blocksL
      rw [if_neg h]
    obtain ⟨k, hk⟩ := hr (insN l a L) (by rw [insN_len]; exact hl)
    refine ⟨k + 1, ?_⟩
    unfold V43 at hk ⊢
    rw [vrun_succ, f43_0, bif_neg (by exact decide_eq_false (by omega)), bif_pos (by exact decide_eq_true (by simp only [Int.toNat_natCast]; omega))]
    simp only [Int.toNat_natCast]
    rw [hk, e]
    rfl
theorem f43_run (l : List Nt) (hL : l.length < 800000000) :
  ∃ N, vrun (E6 8) f43cuts 1 100000 (k43 kk) N [.code (fb Tryd.f43).2] (start [.own 0, .int .i64 l.length, .fn 32 [] []] [.arr rNote l false]) = kk (.tuple []) [.arr rNote (stabN l) false] := by
 obtain ⟨k, hk⟩ := f43_blocks kk l.length hL (fun l' => kk (.tuple []) [.arr rNote (sortP ltN l.length l.length 20 l' : List Nt) false]) (fun l' hl' => f43_sort kk l.length (by omega) l.length 20 l' (by omega) (by omega) (by omega) hl') l.length 0 l (by omega) (by omega) rfl
 refine ⟨k + 1, ?_⟩
 rw [vrun_succ]
 refine (f43_go _ kk l l.length).trans ?_
 exact hk
end
end Vm.S14
open Go Go.Proofs
namespace Vm.S14
theorem w64 {n : Int} (h₁ : -9223372036854775808 ≤ n) (h₂ : n ≤ 9223372036854775807) : IntKind.wrap .i64 n = n := wrap64 (by omega) (by omega)
noncomputable def own43 (l : List Nt) (n : Int) : Bool × V × List Ob := (decide (n = (l.length : Int) ∧ l.length < 800000000), .tuple [], [.arr rNote (stabN l : List Nt) false])
theorem f43_con (l : List Nt) (n : Int) (hc : decide (n = (l.length : Int) ∧ l.length < 800000000) = true) : Contract Tryd.prog gls 43 [.own 0, .int .i64 n, .fn 32 [] []] [.arr rNote l false] (.tuple []) [.arr rNote (stabN l : List Nt) false] := by
 obtain ⟨rfl, hl⟩ := of_decide_eq_true hc
 obtain ⟨N, hN⟩ := f43_run (fun v os => some (v, os)) l hl
 exact ps_contract (ready6 8) (glE6 8) (fn := (fb Tryd.f43).1) (c := (fb Tryd.f43).2) Tryd.func43 (by kernel_rfl) (by kernel_rfl) (by decide) (rfOk_no (by kernel_rfl)) hN (show 1 ≤ 1 by decide)
noncomputable def f43e : Entry Tryd.prog gls where
 f := 43
 g := fun args os => match args, os with
   | [.own 0, .int .i64 n, .fn 32 [] []], [.arr r l false] => match Ks.eqp r rNote with
     | some ⟨h⟩ => some (own43 (Ks.cast h l) n)
     | none => none
   | _, _ => none
 says := by
  intro args os c v os' h hc
  split at h
  ·split at h
   ·rename_i _ e _
    subst e
    cases h
    exact f43_con _ _ hc
   ·cases h
  ·cases h
theorem f50_run {R : Type} (kk : V → List Ob → Option R) (x y : Int × Int) :
  vrun (E1 8) f50cuts 0 100000 (k50 kk) 1 [.code (fb Tryd.f50).2] (start [enc true rK2 x, enc true rK2 y] []) = kk (.int .i64 (cmpK x y)) [] := by
 rw [vrun_succ]
 refine (f50_go _ kk x y).trans ?_
 unfold cmpK orI
 by_cases h : IntKind.wrap .i64 (x.1 - y.1) = 0
 ·rw [bif_neg (by simp [h]), h]
  by_cases h' : IntKind.wrap .i64 (x.2 - y.2) = 0
  ·rw [bif_neg (by simp [h']), h']
   rfl
  ·rw [bif_pos (by simp [h'])]
   simp [h']
 ·rw [bif_pos (by simp [h])]
  simp [h]
noncomputable def f50e : Entry Tryd.prog gls := .two 50 true rK2 true rK2 (by intro h; cases h) (by intro h; cases h) (fun (x y : Int × Int) => (true, .int .i64 (cmpK x y))) fun x y h => by
 have hn := f50_run (fun v os => some (v, os)) x y
 exact contract_run (fn := (fb Tryd.f50).1) (c := (fb Tryd.f50).2) mixed (ready1 8) (glE1 8) Tryd.func50 (by kernel_rfl) rfl rfl (by kernel_rfl) hn
noncomputable def es11 : List (Entry Tryd.prog gls) := [f43e, f50e] ++ es6
noncomputable def E11 (n : Nat) : Env := interp fns (look tys) gls mvs (tabOf es11) 100000 n
theorem ready11 (n : Nat) : Ready Tryd.prog (E11 n) := ready_of mixed fnsAll tysOk rfsOk n
theorem glE11 (n : Nat) : (E11 n).gl = gls := by cases n <;> rfl
noncomputable def es12 : List (Entry Tryd.prog gls) := es11
noncomputable def E12 (n : Nat) : Env := interp fns (look tys) gls mvs (tabOf es12) 100000 n
theorem ready12 (n : Nat) : Ready Tryd.prog (E12 n) := ready_of mixed fnsAll tysOk rfsOk n
theorem glE12 (n : Nat) : (E12 n).gl = gls := by cases n <;> rfl
end Vm.S14
