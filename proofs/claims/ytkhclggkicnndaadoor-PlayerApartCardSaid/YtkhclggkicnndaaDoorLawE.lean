/- How a player goes on, and its calls, as runs of the value machine. -/
import Derived.Test.YtkhclggkicnndaaDoorLawD
import Derived.Test.YtkhclggkicnndaaDoorVmE
import Derived.KernelRfl
import Derived.Test.YtkhclggkicnndaaDoorWords
import Derived.Test.YtkhclggkicnndaaDoorProg
import Derived.WalkKit
import Derived.LaidEql
import Derived.Stop.Asserts
import Derived.RowKitTokens
set_option maxRecDepth 100000
open Go Go.Proofs Go.IntKind
namespace Vm.S14
variable {R : Type} (J : List Item → St → Option R) (kk : V → List Ob → Option R)
noncomputable abbrev f39cuts : Cuts := look [(2, [1, 2, 4, 5]), (1000010, [39010, 1, 2, 4, 5, 7, 8])]
noncomputable abbrev f39t2 : List Item := itemsAt (fb Tryd.f39).2 2
def f39s0 (n1 n2 n3 n4 n5 n6 n7 : Int) (b8 : Bool) (l9 : List Nt) (l10 : List Bool) (e11 : Cn) : St := { fr := [(1, V.int i64 n1), (2, V.ref 1 0 0 0), (4, V.nilsl), (5, V.ref 2 0 0 0)], hp := [(0, Ob.var [V.int i64 n2, V.int i64 n3, V.int i64 n4, V.int i64 n5, V.int i64 n6, V.int i64 n7, V.own 3, V.own 4, V.map 5, V.bool b8]), (1, Ob.var [V.ref 0 0 0 0]), (2, Ob.var [V.nilsl]), (3, Ob.arr rNote l9 false), (4, Ob.arr rB l10 false), (5, Ob.map rK2 true rI false e11)], nx := 6 }
def f39s1 (n12 n13 n14 n15 n16 n17 n18 : Int) (b19 : Bool) (l20 : List Nt) (l21 : List Bool) (e22 : Cn) (l23 : List Sg) : St := { fr := [(1, V.int i64 n12), (2, V.ref 1 0 0 0), (4, V.nilsl), (5, V.ref 2 0 0 0)], hp := [(0, Ob.var [V.int i64 n13, V.int i64 n14, V.int i64 n15, V.int i64 n16, V.int i64 n17, V.int i64 n18, V.own 3, V.own 4, V.map 5, V.bool b19]), (1, Ob.var [V.ref 0 0 0 0]), (2, Ob.var [V.own 6]), (3, Ob.arr rNote l20 false), (4, Ob.arr rB l21 false), (5, Ob.map rK2 true rI false e22), (6, Ob.arr rSig l23 false)], nx := 7 }
noncomputable abbrev k39 {Q : Type} (k : V → List Ob → Option Q) := vend (E27 8) 1 (fb Tryd.f39).1.results.toList false k
theorem f39_go (p : PS) (n : Int) :
 vseg (E27 8) f39cuts 1 J (k39 kk) 100000 true [.code (fb Tryd.f39).2] (start ([V.ref (0 : Nat) (0 : Nat) (0 : Nat) (0 : Nat), V.int i64 n]) ([Ob.var [V.int i64 p.place, V.int i64 p.left, V.int i64 p.num, V.int i64 p.den, V.int i64 p.from_, V.int i64 p.to_, V.own (1 : Nat), V.own (2 : Nat), V.map (3 : Nat), V.bool p.on], Ob.arr rNote p.notes false, Ob.arr rB p.down false, Ob.map rK2 true rI false p.cnt])) =
 J f39t2 (f39s0 n (p.place) (p.left) (p.num) (p.den) (p.from_) (p.to_) (p.on) (p.notes) (p.down) (p.cnt)) := by kernel_rfl
theorem f39_0 (n1 n2 n3 n4 n5 n6 n7 : Int) (b8 : Bool) (l9 : List Nt) (l10 : List Bool) (e11 : Cn) :
 vseg (E27 8) f39cuts 1 J (k39 kk) 100000 true f39t2 (f39s0 n1 n2 n3 n4 n5 n6 n7 b8 l9 l10 e11) =
 (bif decide ((0 : Int) < n1) then
 (bif decide ((0 : Int) < n7) then
 (bif decide (n2 < n7) then
 (bif decide (i64.wrap (n7 - n2) ≤ n1) then
 (bif okT l9 l10 n7 n2 (0 : Nat) then
 (bif decide (n7 ≤ nextL n2 l9 l10 n7) then
 (bif decide (i64.wrap (n7 - n2) ≤ n1) then
 (bif ckK (keysUp e11) && decide (e11.length < 256) then
 (bif decide ((upsAt n7 (keysL e11)).length * 40 ≤ bytesMost) then
 J f39t2 (f39s1 (i64.wrap (n1 - i64.wrap (n7 - n2))) n6 n3 n4 n5 n6 n7 b8 l9 (List.replicate l10.length false) ([]) (upsAt n7 (keysL e11)))
 else none)
 else none)
 else J f39t2 (f39s0 (i64.wrap (n1 - i64.wrap (n7 - n2))) n7 n3 n4 n5 n6 n7 b8 l9 l10 e11))
 else (bif decide (i64.wrap (n7 - n2) ≤ n1) then
 (bif ckK (keysUp (goR l9 n7 (n2, l10, e11, [])).snd.snd.fst) && decide (List.length (goR l9 n7 (n2, l10, e11, [])).snd.snd.fst < 256) then
 (bif decide (((goR l9 n7 (n2, l10, e11, [])).snd.snd.snd.length + (upsAt n7 (keysL (goR l9 n7 (n2, l10, e11, [])).snd.snd.fst)).length) * 40 ≤ bytesMost) then
 J f39t2 (f39s1 (i64.wrap (n1 - i64.wrap (n7 - n2))) n6 n3 n4 n5 n6 n7 b8 l9 (List.replicate (goR l9 n7 (n2, l10, e11, [])).snd.fst.length false) ([]) ((goR l9 n7 (n2, l10, e11, [])).snd.snd.snd ++ upsAt n7 (keysL (goR l9 n7 (n2, l10, e11, [])).snd.snd.fst)))
 else none)
 else none)
 else J f39t2 (f39s1 (i64.wrap (n1 - i64.wrap (n7 - n2))) n7 n3 n4 n5 n6 n7 b8 l9 ((goR l9 n7 (n2, l10, e11, [])).snd.fst) ((goR l9 n7 (n2, l10, e11, [])).snd.snd.fst) ((goR l9 n7 (n2, l10, e11, [])).snd.snd.snd))))
 else none)
 else (bif okT l9 l10 (i64.wrap (n2 + n1)) n2 (0 : Nat) then
 (bif decide (i64.wrap (n2 + n1) ≤ nextL n2 l9 l10 (i64.wrap (n2 + n1))) then
 (bif decide (i64.wrap (n7 - n2) ≤ n1) then
 (bif ckK (keysUp e11) && decide (e11.length < 256) then
 (bif decide ((upsAt (i64.wrap (n2 + n1)) (keysL e11)).length * 40 ≤ bytesMost) then
 J f39t2 (f39s1 (i64.wrap (n1 - i64.wrap (i64.wrap (n2 + n1) - n2))) n6 n3 n4 n5 n6 n7 b8 l9 (List.replicate l10.length false) ([]) (upsAt (i64.wrap (n2 + n1)) (keysL e11)))
 else none)
 else none)
 else J f39t2 (f39s0 (i64.wrap (n1 - i64.wrap (i64.wrap (n2 + n1) - n2))) (i64.wrap (n2 + n1)) n3 n4 n5 n6 n7 b8 l9 l10 e11))
 else (bif decide (i64.wrap (n7 - n2) ≤ n1) then
 (bif ckK (keysUp (goR l9 (i64.wrap (n2 + n1)) (n2, l10, e11, [])).snd.snd.fst) && decide (List.length (goR l9 (i64.wrap (n2 + n1)) (n2, l10, e11, [])).snd.snd.fst < 256) then
 (bif decide (((goR l9 (i64.wrap (n2 + n1)) (n2, l10, e11, [])).snd.snd.snd.length + (upsAt (i64.wrap (n2 + n1)) (keysL (goR l9 (i64.wrap (n2 + n1)) (n2, l10, e11, [])).snd.snd.fst)).length) * 40 ≤ bytesMost) then
 J f39t2 (f39s1 (i64.wrap (n1 - i64.wrap (i64.wrap (n2 + n1) - n2))) n6 n3 n4 n5 n6 n7 b8 l9 (List.replicate (goR l9 (i64.wrap (n2 + n1)) (n2, l10, e11, [])).snd.fst.length false) ([]) ((goR l9 (i64.wrap (n2 + n1)) (n2, l10, e11, [])).snd.snd.snd ++ upsAt (i64.wrap (n2 + n1)) (keysL (goR l9 (i64.wrap (n2 + n1)) (n2, l10, e11, [])).snd.snd.fst)))
 else none)
 else none)
 else J f39t2 (f39s1 (i64.wrap (n1 - i64.wrap (i64.wrap (n2 + n1) - n2))) (i64.wrap (n2 + n1)) n3 n4 n5 n6 n7 b8 l9 ((goR l9 (i64.wrap (n2 + n1)) (n2, l10, e11, [])).snd.fst) ((goR l9 (i64.wrap (n2 + n1)) (n2, l10, e11, [])).snd.snd.fst) ((goR l9 (i64.wrap (n2 + n1)) (n2, l10, e11, [])).snd.snd.snd))))
 else none))
 else (bif okT l9 l10 (i64.wrap (n2 + n1)) n2 (0 : Nat) then
 (bif decide (i64.wrap (n2 + n1) ≤ nextL n2 l9 l10 (i64.wrap (n2 + n1))) then
 J f39t2 (f39s0 (i64.wrap (n1 - i64.wrap (i64.wrap (n2 + n1) - n2))) (i64.wrap (n2 + n1)) n3 n4 n5 n6 n7 b8 l9 l10 e11)
 else J f39t2 (f39s1 (i64.wrap (n1 - i64.wrap (i64.wrap (n2 + n1) - n2))) (i64.wrap (n2 + n1)) n3 n4 n5 n6 n7 b8 l9 ((goR l9 (i64.wrap (n2 + n1)) (n2, l10, e11, [])).snd.fst) ((goR l9 (i64.wrap (n2 + n1)) (n2, l10, e11, [])).snd.snd.fst) ((goR l9 (i64.wrap (n2 + n1)) (n2, l10, e11, [])).snd.snd.snd)))
 else none))
 else (bif okT l9 l10 (i64.wrap (n2 + n1)) n2 (0 : Nat) then
 (bif decide (i64.wrap (n2 + n1) ≤ nextL n2 l9 l10 (i64.wrap (n2 + n1))) then
 J f39t2 (f39s0 (i64.wrap (n1 - i64.wrap (i64.wrap (n2 + n1) - n2))) (i64.wrap (n2 + n1)) n3 n4 n5 n6 n7 b8 l9 l10 e11)
 else J f39t2 (f39s1 (i64.wrap (n1 - i64.wrap (i64.wrap (n2 + n1) - n2))) (i64.wrap (n2 + n1)) n3 n4 n5 n6 n7 b8 l9 ((goR l9 (i64.wrap (n2 + n1)) (n2, l10, e11, [])).snd.fst) ((goR l9 (i64.wrap (n2 + n1)) (n2, l10, e11, [])).snd.snd.fst) ((goR l9 (i64.wrap (n2 + n1)) (n2, l10, e11, [])).snd.snd.snd)))
 else none))
 else kk (V.nilsl) ([Ob.var [V.int i64 n2, V.int i64 n3, V.int i64 n4, V.int i64 n5, V.int i64 n6, V.int i64 n7, V.own 1, V.own 2, V.map 3, V.bool b8], Ob.arr rNote l9 false, Ob.arr rB l10 false, Ob.map rK2 true rI false e11])) := by kernel_rfl
theorem f39_1 (n12 n13 n14 n15 n16 n17 n18 : Int) (b19 : Bool) (l20 : List Nt) (l21 : List Bool) (e22 : Cn) (l23 : List Sg) :
 vseg (E27 8) f39cuts 1 J (k39 kk) 100000 true f39t2 (f39s1 n12 n13 n14 n15 n16 n17 n18 b19 l20 l21 e22 l23) =
 (bif decide ((0 : Int) < n12) then
 (bif decide ((0 : Int) < n18) then
 (bif decide (n13 < n18) then
 (bif decide (i64.wrap (n18 - n13) ≤ n12) then
 (bif okT l20 l21 n18 n13 l23.length then
 (bif decide (n18 ≤ nextL n13 l20 l21 n18) then
 (bif decide (i64.wrap (n18 - n13) ≤ n12) then
 (bif ckK (keysUp e22) && decide (e22.length < 256) then
 (bif decide ((l23.length + (upsAt n18 (keysL e22)).length) * 40 ≤ bytesMost) then
 J f39t2 (f39s1 (i64.wrap (n12 - i64.wrap (n18 - n13))) n17 n14 n15 n16 n17 n18 b19 l20 (List.replicate l21.length false) ([]) (l23 ++ upsAt n18 (keysL e22)))
 else none)
 else none)
 else J f39t2 (f39s1 (i64.wrap (n12 - i64.wrap (n18 - n13))) n18 n14 n15 n16 n17 n18 b19 l20 l21 e22 l23))
 else (bif decide (i64.wrap (n18 - n13) ≤ n12) then
 (bif ckK (keysUp (goR l20 n18 (n13, l21, e22, l23)).snd.snd.fst) && decide (List.length (goR l20 n18 (n13, l21, e22, l23)).snd.snd.fst < 256) then
 (bif decide (((goR l20 n18 (n13, l21, e22, l23)).snd.snd.snd.length + (upsAt n18 (keysL (goR l20 n18 (n13, l21, e22, l23)).snd.snd.fst)).length) * 40 ≤ bytesMost) then
 J f39t2 (f39s1 (i64.wrap (n12 - i64.wrap (n18 - n13))) n17 n14 n15 n16 n17 n18 b19 l20 (List.replicate (goR l20 n18 (n13, l21, e22, l23)).snd.fst.length false) ([]) ((goR l20 n18 (n13, l21, e22, l23)).snd.snd.snd ++ upsAt n18 (keysL (goR l20 n18 (n13, l21, e22, l23)).snd.snd.fst)))
 else none)
 else none)
 else J f39t2 (f39s1 (i64.wrap (n12 - i64.wrap (n18 - n13))) n18 n14 n15 n16 n17 n18 b19 l20 ((goR l20 n18 (n13, l21, e22, l23)).snd.fst) ((goR l20 n18 (n13, l21, e22, l23)).snd.snd.fst) ((goR l20 n18 (n13, l21, e22, l23)).snd.snd.snd))))
 else none)
 else (bif okT l20 l21 (i64.wrap (n13 + n12)) n13 l23.length then
 (bif decide (i64.wrap (n13 + n12) ≤ nextL n13 l20 l21 (i64.wrap (n13 + n12))) then
 (bif decide (i64.wrap (n18 - n13) ≤ n12) then
 (bif ckK (keysUp e22) && decide (e22.length < 256) then
 (bif decide ((l23.length + (upsAt (i64.wrap (n13 + n12)) (keysL e22)).length) * 40 ≤ bytesMost) then
 J f39t2 (f39s1 (i64.wrap (n12 - i64.wrap (i64.wrap (n13 + n12) - n13))) n17 n14 n15 n16 n17 n18 b19 l20 (List.replicate l21.length false) ([]) (l23 ++ upsAt (i64.wrap (n13 + n12)) (keysL e22)))
 else none)
 else none)
 else J f39t2 (f39s1 (i64.wrap (n12 - i64.wrap (i64.wrap (n13 + n12) - n13))) (i64.wrap (n13 + n12)) n14 n15 n16 n17 n18 b19 l20 l21 e22 l23))
 else (bif decide (i64.wrap (n18 - n13) ≤ n12) then
 (bif ckK (keysUp (goR l20 (i64.wrap (n13 + n12)) (n13, l21, e22, l23)).snd.snd.fst) && decide (List.length (goR l20 (i64.wrap (n13 + n12)) (n13, l21, e22, l23)).snd.snd.fst < 256) then
 (bif decide (((goR l20 (i64.wrap (n13 + n12)) (n13, l21, e22, l23)).snd.snd.snd.length + (upsAt (i64.wrap (n13 + n12)) (keysL (goR l20 (i64.wrap (n13 + n12)) (n13, l21, e22, l23)).snd.snd.fst)).length) * 40 ≤ bytesMost) then
 J f39t2 (f39s1 (i64.wrap (n12 - i64.wrap (i64.wrap (n13 + n12) - n13))) n17 n14 n15 n16 n17 n18 b19 l20 (List.replicate (goR l20 (i64.wrap (n13 + n12)) (n13, l21, e22, l23)).snd.fst.length false) ([]) ((goR l20 (i64.wrap (n13 + n12)) (n13, l21, e22, l23)).snd.snd.snd ++ upsAt (i64.wrap (n13 + n12)) (keysL (goR l20 (i64.wrap (n13 + n12)) (n13, l21, e22, l23)).snd.snd.fst)))
 else none)
 else none)
 else J f39t2 (f39s1 (i64.wrap (n12 - i64.wrap (i64.wrap (n13 + n12) - n13))) (i64.wrap (n13 + n12)) n14 n15 n16 n17 n18 b19 l20 ((goR l20 (i64.wrap (n13 + n12)) (n13, l21, e22, l23)).snd.fst) ((goR l20 (i64.wrap (n13 + n12)) (n13, l21, e22, l23)).snd.snd.fst) ((goR l20 (i64.wrap (n13 + n12)) (n13, l21, e22, l23)).snd.snd.snd))))
 else none))
 else (bif okT l20 l21 (i64.wrap (n13 + n12)) n13 l23.length then
 (bif decide (i64.wrap (n13 + n12) ≤ nextL n13 l20 l21 (i64.wrap (n13 + n12))) then
 J f39t2 (f39s1 (i64.wrap (n12 - i64.wrap (i64.wrap (n13 + n12) - n13))) (i64.wrap (n13 + n12)) n14 n15 n16 n17 n18 b19 l20 l21 e22 l23)
 else J f39t2 (f39s1 (i64.wrap (n12 - i64.wrap (i64.wrap (n13 + n12) - n13))) (i64.wrap (n13 + n12)) n14 n15 n16 n17 n18 b19 l20 ((goR l20 (i64.wrap (n13 + n12)) (n13, l21, e22, l23)).snd.fst) ((goR l20 (i64.wrap (n13 + n12)) (n13, l21, e22, l23)).snd.snd.fst) ((goR l20 (i64.wrap (n13 + n12)) (n13, l21, e22, l23)).snd.snd.snd)))
 else none))
 else (bif okT l20 l21 (i64.wrap (n13 + n12)) n13 l23.length then
 (bif decide (i64.wrap (n13 + n12) ≤ nextL n13 l20 l21 (i64.wrap (n13 + n12))) then
 J f39t2 (f39s1 (i64.wrap (n12 - i64.wrap (i64.wrap (n13 + n12) - n13))) (i64.wrap (n13 + n12)) n14 n15 n16 n17 n18 b19 l20 l21 e22 l23)
 else J f39t2 (f39s1 (i64.wrap (n12 - i64.wrap (i64.wrap (n13 + n12) - n13))) (i64.wrap (n13 + n12)) n14 n15 n16 n17 n18 b19 l20 ((goR l20 (i64.wrap (n13 + n12)) (n13, l21, e22, l23)).snd.fst) ((goR l20 (i64.wrap (n13 + n12)) (n13, l21, e22, l23)).snd.snd.fst) ((goR l20 (i64.wrap (n13 + n12)) (n13, l21, e22, l23)).snd.snd.snd)))
 else none))
 else kk (V.sl rSig l23) ([Ob.var [V.int i64 n13, V.int i64 n14, V.int i64 n15, V.int i64 n16, V.int i64 n17, V.int i64 n18, V.own 1, V.own 2, V.map 3, V.bool b19], Ob.arr rNote l20 false, Ob.arr rB l21 false, Ob.map rK2 true rI false e22])) := by kernel_rfl
end Vm.S14
open Go Go.Proofs
namespace Vm.S14
theorem okT_ok {l : List Nt} {d : List Bool} {to fr : Int} {k : Nat} (h1 : l.length ≤ 100) (h2 : d.length = l.length) (h3 : to ≤ 1000000000000000000) (h4 : -1000000000000000000 ≤ fr) (h5 : k ≤ 900000000) : okT l d to fr k = true := decide_eq_true ⟨by omega, h2, h3, h4, h5⟩
theorem goR_none {l : List Nt} {to : Int} {s : GoS} (h : to ≤ nextL s.1 l s.2.1 to) : goR l to s = s := by rw [goR_eq, if_pos h]
structure GOk (p : PS) (n pl : Int) (d : List Bool) (c : Cn) (a : List Sg) (k : Nat) : Prop where
 few : p.notes.length ≤ 100
 right : p.notes.all Nt.right = true
 inv : CInv p.notes d c
 pl0 : 0 ≤ pl
 pl1 : pl ≤ 20000000000000000
 n0 : 0 ≤ n
 n1 : n ≤ 1000000000000000
 f0 : 0 ≤ p.from_
 t1 : p.to_ ≤ 10000000000000000
 ft : 0 < p.to_ → p.from_ < p.to_
 acc : a.length + k * 40600 ≤ 900000000
theorem GOk.goLen {p : PS} {n pl : Int} {d : List Bool} {c : Cn} {a : List Sg} {k : Nat} (h : GOk p n pl d c a k) (to : Int) : (goR p.notes to (pl, d, c, a)).2.2.2.length ≤ a.length + 40200 := by
 have h1 := (goR_len p.notes to (pl, d, c, a)).2
 have h2 : (2 * p.notes.length + 1) * (2 * p.notes.length) ≤ 201 * 200 := Nat.mul_le_mul (by have := h.few; omega) (by have := h.few; omega)
 dsimp only at h1
 omega
theorem GOk.inv' {p : PS} {n pl : Int} {d : List Bool} {c : Cn} {a : List Sg} {k : Nat} (h : GOk p n pl d c a k) (to : Int) : CInv p.notes (goR p.notes to (pl, d, c, a)).2.1 (goR p.notes to (pl, d, c, a)).2.2.1 :=
 CInv.goR (by have := h.few; omega) to (pl, d, c, a) h.inv
theorem cnt_guard {p : PS} {d : List Bool} {c : Cn} (h1 : p.notes.length ≤ 100) (h2 : p.notes.all Nt.right = true) (hi : CInv p.notes d c) : (ckK (keysUp c) && decide (c.length < 256)) = true := by
 rw [hi.ck h2, Bool.true_and]
 exact decide_eq_true (by have := hi.small; omega)
section
variable {R : Type} (kk : V → List Ob → Option R) (p : PS)
noncomputable abbrev V39 (k : Nat) (t : List Item) (s : St) : Option R := vrun (E27 8) f39cuts 1 100000 (k39 kk) k t s
abbrev s39 (own : Bool) (n pl : Int) (d : List Bool) (c : Cn) (a : List Sg) : St := if own then f39s1 n pl p.left p.num p.den p.from_ p.to_ p.on p.notes d c a else f39s0 n pl p.left p.num p.den p.from_ p.to_ p.on p.notes d c
theorem l39_0 (N : Nat) (n pl : Int) (d : List Bool) (c : Cn) (k : Nat) (h : GOk p n pl d c [] (k + 1)) (hn : 0 < n) (hL : Looped p.from_ p.to_ pl n) :
  V39 kk (N + 1) f39t2 (s39 p false n pl d c []) = V39 kk N f39t2 (s39 p true (n - (p.to_ - pl)) p.from_ (List.replicate d.length false) [] ((goR p.notes p.to_ (pl, d, c, [])).2.2.2 ++ upsAt p.to_ (keysL (goR p.notes p.to_ (pl, d, c, [])).2.2.1))) := by
 obtain ⟨c1, c2, c3⟩ := hL
 obtain ⟨h1, h2, h3, h4, h5, h6, h7, h8, h9, h10, h11⟩ := id h
 have hg := h.goLen p.to_
 have hi := h.inv' p.to_
 have hk := keysL_len hi h2
 have hd := (goR_len p.notes p.to_ (pl, d, c, [])).1
 rw [Nat.succ_mul] at h11
 unfold V39
 rw [vrun_succ]
 refine (f39_0 _ kk n pl p.left p.num p.den p.from_ p.to_ p.on p.notes d c).trans ?_
 have w1 : IntKind.i64.wrap (p.to_ - pl) = p.to_ - pl := wrap64 (by omega) (by omega)
 rw [w1, show IntKind.i64.wrap (n - (p.to_ - pl)) = n - (p.to_ - pl) from wrap64 (by omega) (by omega)]
 refine (bif_pos (by exact decide_eq_true hn)).trans ?_
 refine (bif_pos (by exact decide_eq_true c1)).trans ?_
 refine (bif_pos (by exact decide_eq_true c2)).trans ?_
 refine (bif_pos (by exact decide_eq_true c3)).trans ?_
 refine (bif_pos (by exact okT_ok h1 h3.len (by omega) (by omega) (by decide))).trans ?_
 by_cases hz : p.to_ ≤ nextL pl p.notes d p.to_
 ·have e : goR p.notes p.to_ (pl, d, c, []) = (pl, d, c, []) := goR_none hz
  rw [e] at hk hg ⊢
  refine (bif_pos (by exact decide_eq_true hz)).trans ?_
  refine (bif_pos (by exact decide_eq_true c3)).trans ?_
  refine (bif_pos (by exact cnt_guard h1 h2 h3)).trans ?_
  refine (bif_pos (by
   refine decide_eq_true ?_
   dsimp only at hk
   unfold bytesMost upsAt
   rw [List.length_map]
   omega)).trans ?_
  rfl
 ·refine (bif_neg (by exact decide_eq_false hz)).trans ?_
  refine (bif_pos (by exact decide_eq_true c3)).trans ?_
  refine (bif_pos (by exact cnt_guard h1 h2 hi)).trans ?_
  refine (bif_pos (by
   refine decide_eq_true ?_
   simp only [List.length_nil] at hg h11
   unfold bytesMost upsAt
   rw [List.length_map]
   omega)).trans ?_
  rw [hd]
  rfl
theorem u39_0 (N : Nat) (n pl : Int) (d : List Bool) (c : Cn) (k : Nat) (h : GOk p n pl d c [] (k + 1)) (hn : 0 < n) (hL : ¬ Looped p.from_ p.to_ pl n) :
  ∃ own, (own = false → (goR p.notes (pl + n) (pl, d, c, [])).2.2.2 = []) ∧ V39 kk (N + 1) f39t2 (s39 p false n pl d c []) = V39 kk N f39t2 (s39 p own 0 (pl + n) (goR p.notes (pl + n) (pl, d, c, [])).2.1 (goR p.notes (pl + n) (pl, d, c, [])).2.2.1 (goR p.notes (pl + n) (pl, d, c, [])).2.2.2) := by
 obtain ⟨h1, h2, h3, h4, h5, h6, h7, h8, h9, h10, h11⟩ := id h
 rw [Nat.succ_mul] at h11
 have w1 : IntKind.i64.wrap (p.to_ - pl) = p.to_ - pl ∨ ¬ (0 < p.to_) := by
  by_cases c1 : 0 < p.to_
  ·exact .inl (wrap64 (by omega) (by omega))
  ·exact .inr c1
 have w2 : IntKind.i64.wrap (pl + n) = pl + n := wrap64 (by omega) (by omega)
 have w3 : IntKind.i64.wrap (pl + n - pl) = n := by rw [show pl + n - pl = n by omega]; exact wrap64 (by omega) (by omega)
 have w4 : IntKind.i64.wrap (n - n) = 0 := by rw [Int.sub_self]; decide
 have hT : okT p.notes d (pl + n) pl ([] : List Sg).length = true := okT_ok h1 h3.len (by omega) (by omega) (by decide)
 have hs := f39_0 (vrun (E27 8) f39cuts 1 100000 (k39 kk) N) kk n pl p.left p.num p.den p.from_ p.to_ p.on p.notes d c
 rw [w2, w3, w4] at hs
 by_cases hz : pl + n ≤ nextL pl p.notes d (pl + n)
 ·have e : goR p.notes (pl + n) (pl, d, c, []) = (pl, d, c, []) := goR_none hz
  rw [e]
  refine ⟨false, (fun _ => rfl), ?_⟩
  unfold V39
  rw [vrun_succ]
  refine hs.trans ?_
  refine (bif_pos (by exact decide_eq_true hn)).trans ?_
  by_cases c1 : 0 < p.to_
  ·have w1 := w1.resolve_right (fun h => h c1)
   rw [w1]
   refine (bif_pos (by exact decide_eq_true c1)).trans ?_
   by_cases c2 : pl < p.to_
   ·have c3 : ¬ p.to_ - pl ≤ n := fun c3 => hL ⟨c1, c2, c3⟩
    refine (bif_pos (by exact decide_eq_true c2)).trans ?_
    refine (bif_neg (by exact decide_eq_false c3)).trans ?_
    refine (bif_pos hT).trans ?_
    refine (bif_pos (by exact decide_eq_true hz)).trans ?_
    refine (bif_neg (by exact decide_eq_false c3)).trans ?_
    rfl
   ·refine (bif_neg (by exact decide_eq_false c2)).trans ?_
    refine (bif_pos hT).trans ?_
    refine (bif_pos (by exact decide_eq_true hz)).trans ?_
    rfl
  ·refine (bif_neg (by exact decide_eq_false c1)).trans ?_
   refine (bif_pos hT).trans ?_
   refine (bif_pos (by exact decide_eq_true hz)).trans ?_
   rfl
 ·refine ⟨true, (fun h => by cases h), ?_⟩
  unfold V39
  rw [vrun_succ]
  refine hs.trans ?_
  refine (bif_pos (by exact decide_eq_true hn)).trans ?_
  by_cases c1 : 0 < p.to_
  ·have w1 := w1.resolve_right (fun h => h c1)
   rw [w1]
   refine (bif_pos (by exact decide_eq_true c1)).trans ?_
   by_cases c2 : pl < p.to_
   ·have c3 : ¬ p.to_ - pl ≤ n := fun c3 => hL ⟨c1, c2, c3⟩
    refine (bif_pos (by exact decide_eq_true c2)).trans ?_
    refine (bif_neg (by exact decide_eq_false c3)).trans ?_
    refine (bif_pos hT).trans ?_
    refine (bif_neg (by exact decide_eq_false hz)).trans ?_
    refine (bif_neg (by exact decide_eq_false c3)).trans ?_
    rfl
   ·refine (bif_neg (by exact decide_eq_false c2)).trans ?_
    refine (bif_pos hT).trans ?_
    refine (bif_neg (by exact decide_eq_false hz)).trans ?_
    rfl
  ·refine (bif_neg (by exact decide_eq_false c1)).trans ?_
   refine (bif_pos hT).trans ?_
   refine (bif_neg (by exact decide_eq_false hz)).trans ?_
   rfl
theorem e39_0 (N : Nat) (n pl : Int) (d : List Bool) (c : Cn) (hn : ¬ 0 < n) : V39 kk (N + 1) f39t2 (s39 p false n pl d c []) = kk (V.nilsl) (PS.obs ⟨pl, p.left, p.num, p.den, p.from_, p.to_, p.notes, d, c, p.on⟩) := by
 unfold V39
 rw [vrun_succ]
 refine (f39_0 _ kk n pl p.left p.num p.den p.from_ p.to_ p.on p.notes d c).trans ?_
 exact bif_neg (by exact decide_eq_false hn)
theorem l39_1 (N : Nat) (n pl : Int) (d : List Bool) (c : Cn) (a : List Sg) (k : Nat) (h : GOk p n pl d c a (k + 1)) (hn : 0 < n) (hL : Looped p.from_ p.to_ pl n) :
  V39 kk (N + 1) f39t2 (s39 p true n pl d c a) = V39 kk N f39t2 (s39 p true (n - (p.to_ - pl)) p.from_ (List.replicate d.length false) [] ((goR p.notes p.to_ (pl, d, c, a)).2.2.2 ++ upsAt p.to_ (keysL (goR p.notes p.to_ (pl, d, c, a)).2.2.1))) := by
 obtain ⟨c1, c2, c3⟩ := hL
 obtain ⟨h1, h2, h3, h4, h5, h6, h7, h8, h9, h10, h11⟩ := id h
 have hg := h.goLen p.to_
 have hi := h.inv' p.to_
 have hk := keysL_len hi h2
 have hd := (goR_len p.notes p.to_ (pl, d, c, a)).1
 rw [Nat.succ_mul] at h11
 unfold V39
 rw [vrun_succ]
 refine (f39_1 _ kk n pl p.left p.num p.den p.from_ p.to_ p.on p.notes d c a).trans ?_
 have w1 : IntKind.i64.wrap (p.to_ - pl) = p.to_ - pl := wrap64 (by omega) (by omega)
 rw [w1, show IntKind.i64.wrap (n - (p.to_ - pl)) = n - (p.to_ - pl) from wrap64 (by omega) (by omega)]
 refine (bif_pos (by exact decide_eq_true hn)).trans ?_
 refine (bif_pos (by exact decide_eq_true c1)).trans ?_
 refine (bif_pos (by exact decide_eq_true c2)).trans ?_
 refine (bif_pos (by exact decide_eq_true c3)).trans ?_
 refine (bif_pos (by exact okT_ok h1 h3.len (by omega) (by omega) (by omega))).trans ?_
 by_cases hz : p.to_ ≤ nextL pl p.notes d p.to_
 ·have e : goR p.notes p.to_ (pl, d, c, a) = (pl, d, c, a) := goR_none hz
  rw [e] at hk hg ⊢
  refine (bif_pos (by exact decide_eq_true hz)).trans ?_
  refine (bif_pos (by exact decide_eq_true c3)).trans ?_
  refine (bif_pos (by exact cnt_guard h1 h2 h3)).trans ?_
  refine (bif_pos (by
   refine decide_eq_true ?_
   dsimp only at hk
   unfold bytesMost upsAt
   rw [List.length_map]
   omega)).trans ?_
  rfl
 ·refine (bif_neg (by exact decide_eq_false hz)).trans ?_
  refine (bif_pos (by exact decide_eq_true c3)).trans ?_
  refine (bif_pos (by exact cnt_guard h1 h2 hi)).trans ?_
  refine (bif_pos (by
   refine decide_eq_true ?_
   skip
   unfold bytesMost upsAt
   rw [List.length_map]
   omega)).trans ?_
  rw [hd]
  rfl
theorem u39_1 (N : Nat) (n pl : Int) (d : List Bool) (c : Cn) (a : List Sg) (k : Nat) (h : GOk p n pl d c a (k + 1)) (hn : 0 < n) (hL : ¬ Looped p.from_ p.to_ pl n) :
  ∃ own, (own = false → (goR p.notes (pl + n) (pl, d, c, a)).2.2.2 = []) ∧ V39 kk (N + 1) f39t2 (s39 p true n pl d c a) = V39 kk N f39t2 (s39 p own 0 (pl + n) (goR p.notes (pl + n) (pl, d, c, a)).2.1 (goR p.notes (pl + n) (pl, d, c, a)).2.2.1 (goR p.notes (pl + n) (pl, d, c, a)).2.2.2) := by
 obtain ⟨h1, h2, h3, h4, h5, h6, h7, h8, h9, h10, h11⟩ := id h
 rw [Nat.succ_mul] at h11
 have w1 : IntKind.i64.wrap (p.to_ - pl) = p.to_ - pl ∨ ¬ (0 < p.to_) := by
  by_cases c1 : 0 < p.to_
  ·exact .inl (wrap64 (by omega) (by omega))
  ·exact .inr c1
 have w2 : IntKind.i64.wrap (pl + n) = pl + n := wrap64 (by omega) (by omega)
 have w3 : IntKind.i64.wrap (pl + n - pl) = n := by rw [show pl + n - pl = n by omega]; exact wrap64 (by omega) (by omega)
 have w4 : IntKind.i64.wrap (n - n) = 0 := by rw [Int.sub_self]; decide
 have hT : okT p.notes d (pl + n) pl a.length = true := okT_ok h1 h3.len (by omega) (by omega) (by omega)
 have hs := f39_1 (vrun (E27 8) f39cuts 1 100000 (k39 kk) N) kk n pl p.left p.num p.den p.from_ p.to_ p.on p.notes d c a
 rw [w2, w3, w4] at hs
 by_cases hz : pl + n ≤ nextL pl p.notes d (pl + n)
 ·have e : goR p.notes (pl + n) (pl, d, c, a) = (pl, d, c, a) := goR_none hz
  rw [e]
  refine ⟨true, (fun h => by cases h), ?_⟩
  unfold V39
  rw [vrun_succ]
  refine hs.trans ?_
  refine (bif_pos (by exact decide_eq_true hn)).trans ?_
  by_cases c1 : 0 < p.to_
  ·have w1 := w1.resolve_right (fun h => h c1)
   rw [w1]
   refine (bif_pos (by exact decide_eq_true c1)).trans ?_
   by_cases c2 : pl < p.to_
   ·have c3 : ¬ p.to_ - pl ≤ n := fun c3 => hL ⟨c1, c2, c3⟩
    refine (bif_pos (by exact decide_eq_true c2)).trans ?_
    refine (bif_neg (by exact decide_eq_false c3)).trans ?_
    refine (bif_pos hT).trans ?_
    refine (bif_pos (by exact decide_eq_true hz)).trans ?_
    refine (bif_neg (by exact decide_eq_false c3)).trans ?_
    rfl
   ·refine (bif_neg (by exact decide_eq_false c2)).trans ?_
    refine (bif_pos hT).trans ?_
    refine (bif_pos (by exact decide_eq_true hz)).trans ?_
    rfl
  ·refine (bif_neg (by exact decide_eq_false c1)).trans ?_
   refine (bif_pos hT).trans ?_
   refine (bif_pos (by exact decide_eq_true hz)).trans ?_
   rfl
 ·refine ⟨true, (fun h => by cases h), ?_⟩
  unfold V39
  rw [vrun_succ]
  refine hs.trans ?_
  refine (bif_pos (by exact decide_eq_true hn)).trans ?_
  by_cases c1 : 0 < p.to_
  ·have w1 := w1.resolve_right (fun h => h c1)
   rw [w1]
   refine (bif_pos (by exact decide_eq_true c1)).trans ?_
   by_cases c2 : pl < p.to_
   ·have c3 : ¬ p.to_ - pl ≤ n := fun c3 => hL ⟨c1, c2, c3⟩
    refine (bif_pos (by exact decide_eq_true c2)).trans ?_
    refine (bif_neg (by exact decide_eq_false c3)).trans ?_
    refine (bif_pos hT).trans ?_
    refine (bif_neg (by exact decide_eq_false hz)).trans ?_
    refine (bif_neg (by exact decide_eq_false c3)).trans ?_
    rfl
   ·refine (bif_neg (by exact decide_eq_false c2)).trans ?_
    refine (bif_pos hT).trans ?_
    refine (bif_neg (by exact decide_eq_false hz)).trans ?_
    rfl
  ·refine (bif_neg (by exact decide_eq_false c1)).trans ?_
   refine (bif_pos hT).trans ?_
   refine (bif_neg (by exact decide_eq_false hz)).trans ?_
   rfl
theorem e39_1 (N : Nat) (n pl : Int) (d : List Bool) (c : Cn) (a : List Sg) (hn : ¬ 0 < n) : V39 kk (N + 1) f39t2 (s39 p true n pl d c a) = kk (V.sl rSig a) (PS.obs ⟨pl, p.left, p.num, p.den, p.from_, p.to_, p.notes, d, c, p.on⟩) := by
 unfold V39
 rw [vrun_succ]
 refine (f39_1 _ kk n pl p.left p.num p.den p.from_ p.to_ p.on p.notes d c a).trans ?_
 exact bif_neg (by exact decide_eq_false hn)
def SlS (v : V) (a : List Sg) : Prop := v = .sl rSig a ∨ (a = [] ∧ v = .nilsl)
theorem f39_end (N : Nat) (own : Bool) (n pl : Int) (d : List Bool) (c : Cn) (a : List Sg) (ho : own = false → a = []) (hn : ¬ 0 < n) : ∃ v, SlS v a ∧ V39 kk (N + 1) f39t2 (s39 p own n pl d c a) = kk v (PS.obs ⟨pl, p.left, p.num, p.den, p.from_, p.to_, p.notes, d, c, p.on⟩) := by
 cases own with
 | false =>
   have := ho rfl
   subst this
   exact ⟨_, .inr ⟨rfl, rfl⟩, e39_0 kk p N n pl d c hn⟩
 | true => exact ⟨_, .inl rfl, e39_1 kk p N n pl d c a hn⟩
theorem f39_loop : ∀ (k : Nat) (own : Bool) (n pl : Int) (d : List Bool) (c : Cn) (a : List Sg), (own = false → a = []) → GOk p n pl d c a (k + 1) → turns p.from_ p.to_ pl n ≤ k →
  ∃ N v, SlS v (goesR p.notes p.from_ p.to_ n (pl, d, c, a)).2.2.2 ∧ V39 kk N f39t2 (s39 p own n pl d c a) = kk v (PS.obs ⟨(goesR p.notes p.from_ p.to_ n (pl, d, c, a)).1, p.left, p.num, p.den, p.from_, p.to_, p.notes, (goesR p.notes p.from_ p.to_ n (pl, d, c, a)).2.1, (goesR p.notes p.from_ p.to_ n (pl, d, c, a)).2.2.1, p.on⟩) := by
 intro k
 induction k with
 | zero =>
   intro own n pl d c a ho h ht
   have hn : ¬ 0 < n := by
    intro hn
    unfold turns at ht
    rw [if_pos hn] at ht
    split at ht
    ·rename_i hL
     obtain ⟨c1, c2, c3⟩ := hL
     have := h.ft c1
     have hd : 0 ≤ (n - (p.to_ - pl)) / (p.to_ - p.from_) := Int.ediv_nonneg (by omega) (by omega)
     omega
    ·omega
   rw [goesR_eq, if_neg hn]
   obtain ⟨v, h1, h2⟩ := f39_end kk p 0 own n pl d c a ho hn
   exact ⟨_, v, h1, h2⟩
 | succ k ih =>
   intro own n pl d c a ho h ht
   by_cases hn : 0 < n
   ·by_cases hL : Looped p.from_ p.to_ pl n
    ·obtain ⟨c1, c2, c3⟩ := id hL
     have hft := h.ft c1
     have hT := turns_next hL hft hn
     have hg := h.goLen p.to_
     have hi := h.inv' p.to_
     have hk := keysL_len hi h.right
     have hacc := h.acc
     rw [Nat.add_mul, Nat.one_mul] at hacc
     have hG : GOk p (n - (p.to_ - pl)) p.from_ (List.replicate d.length false) [] ((goR p.notes p.to_ (pl, d, c, a)).2.2.2 ++ upsAt p.to_ (keysL (goR p.notes p.to_ (pl, d, c, a)).2.2.1)) (k + 1) :=
      ⟨h.few, h.right, CInv.start _ _ h.inv.len, h.f0, by have := h.t1; omega, by omega, by have := h.n1; omega, h.f0, h.t1, h.ft, by
        have := h.few
        rw [List.length_append]
        unfold upsAt
        rw [List.length_map]
        omega⟩
     rw [goesR_eq, if_pos hn, if_pos hL]
     obtain ⟨N, v, h1, h2⟩ := ih true _ _ _ _ _ (fun h => by cases h) hG (by omega)
     refine ⟨N + 1, v, h1, ?_⟩
     cases own with
     | false =>
       have := ho rfl
       subst this
       exact (l39_0 kk p N n pl d c (k + 1) h hn hL).trans h2
     | true => exact (l39_1 kk p N n pl d c a (k + 1) h hn hL).trans h2
    ·rw [goesR_eq, if_pos hn, if_neg hL]
     cases own with
     | false =>
       have := ho rfl
       subst this
       obtain ⟨own', g1, g2⟩ := u39_0 kk p 1 n pl d c (k + 1) h hn hL
       obtain ⟨v, h1, h2⟩ := f39_end kk p 0 own' 0 (pl + n) _ _ _ g1 (by omega)
       exact ⟨2, v, h1, g2.trans h2⟩
     | true =>
       obtain ⟨own', g1, g2⟩ := u39_1 kk p 1 n pl d c a (k + 1) h hn hL
       obtain ⟨v, h1, h2⟩ := f39_end kk p 0 own' 0 (pl + n) _ _ _ g1 (by omega)
       exact ⟨2, v, h1, g2.trans h2⟩
   ·rw [goesR_eq, if_neg hn]
    obtain ⟨v, h1, h2⟩ := f39_end kk p 0 own n pl d c a ho hn
    exact ⟨_, v, h1, h2⟩
structure PGo (p : PS) (n : Int) : Prop where
 few : p.notes.length ≤ 100
 right : p.notes.all Nt.right = true
 inv : CInv p.notes p.down p.cnt
 pl0 : 0 ≤ p.place
 pl1 : p.place ≤ 20000000000000000
 n0 : 0 ≤ n
 n1 : n ≤ 1000000000000000
 f0 : 0 ≤ p.from_
 t1 : p.to_ ≤ 10000000000000000
 ft : 0 < p.to_ → p.from_ < p.to_
 tn : turns p.from_ p.to_ p.place n ≤ 10010
theorem f39_run (n : Int) (h : PGo p n) :
  ∃ N v, SlS v (goesR p.notes p.from_ p.to_ n (p.place, p.down, p.cnt, [])).2.2.2 ∧ V39 kk N [.code (fb Tryd.f39).2] (start [.ref 0 0 0 0, .int .i64 n] p.obs) = kk v (PS.obs ⟨(goesR p.notes p.from_ p.to_ n (p.place, p.down, p.cnt, [])).1, p.left, p.num, p.den, p.from_, p.to_, p.notes, (goesR p.notes p.from_ p.to_ n (p.place, p.down, p.cnt, [])).2.1, (goesR p.notes p.from_ p.to_ n (p.place, p.down, p.cnt, [])).2.2.1, p.on⟩) := by
 obtain ⟨N, v, h1, h2⟩ := f39_loop kk p 10010 false n p.place p.down p.cnt [] (fun _ => rfl) ⟨h.few, h.right, h.inv, h.pl0, h.pl1, h.n0, h.n1, h.f0, h.t1, h.ft, by decide⟩ h.tn
 refine ⟨N + 1, v, h1, ?_⟩
 unfold V39
 rw [vrun_succ]
 exact (f39_go _ kk p n).trans h2
end
noncomputable def pgoB (p : PS) (n : Int) : Bool := @decide (PGo p n) (Classical.propDecidable _)
theorem pgoB_to {p : PS} {n : Int} (h : pgoB p n = true) : PGo p n := @of_decide_eq_true _ (Classical.propDecidable _) h
theorem pgoB_eq {p : PS} {n : Int} (h : PGo p n) : pgoB p n = true := @decide_eq_true _ (Classical.propDecidable _) h
noncomputable def f39e : Entry Tryd.prog gls where
 f := 39
 g := fun args os => match args with
   | [.ref 0 0 0 0, .int .i64 n] => match rdPS os with
     | some p => some (pgoB ⟨p.place, p.left, p.num, p.den, p.from_, p.to_, p.notes, p.down, p.cnt, p.on⟩ n, .sl rSig (goesR p.notes p.from_ p.to_ n (p.place, p.down, p.cnt, [])).2.2.2, PS.obs ⟨(goesR p.notes p.from_ p.to_ n (p.place, p.down, p.cnt, [])).1, p.left, p.num, p.den, p.from_, p.to_, p.notes, (goesR p.notes p.from_ p.to_ n (p.place, p.down, p.cnt, [])).2.1, (goesR p.notes p.from_ p.to_ n (p.place, p.down, p.cnt, [])).2.2.1, p.on⟩)
     | none => none
   | _ => none
 says := by
  intro args os c v os' h hc
  split at h
  ·split at h
   ·rename_i n q p hp
    cases h
    rw [rdPS_obs hp]
    obtain ⟨N, v, hv, hN⟩ := f39_run (fun v os => some (v, os)) p n (pgoB_to hc)
    have := ps_contract (ready27 8) (glE27 8) (fn := (fb Tryd.f39).1) (c := (fb Tryd.f39).2) Tryd.func39 (by kernel_rfl) (by kernel_rfl) (by decide) (rfOk_one (y := 39010) (q := q39) (by kernel_rfl) (by rfl)) hN (show 1 ≤ 4 by decide)
    rcases hv with e | ⟨e1, e2⟩
    ·rw [e] at this; exact this
    ·rw [e2] at this
     rw [e1]
     exact ContractM.val this (fun _ _ _ _ => nil_sl) rfl
   ·cases h
  ·cases h
noncomputable def es28 : List (Entry Tryd.prog gls) := [f39e] ++ es27
end Vm.S14
namespace Vm.Told
open Go Go.Proofs Go.RowKit Go.Extern.Stop Go.Stop Go.Extern
theorem valueOf27 (t : Addr) (w : World) : (ReflectliteValue.unpack (.iface 90 (.pointer (some t)))).run Tryd.prog w
 = .ok (.agg #[.pointer (some ⟨1, 90, none⟩), .pointer (some ⟨w.heap.size, 0, none⟩), .int .u64 150]) (w.alloc (.cells #[.pointer (some t)] 90)) := by kernel_rfl
theorem type27 (a : Addr) (w : World) : (ReflectliteValue.methodAny (ReflectliteValue.valueError "reflectlite.Value.Type" 0) (fun t _ _ _ => ReflectliteType.toType t) #[.agg #[.pointer (some ⟨1, 90, none⟩), .pointer (some a), .int .u64 150]]).run Tryd.prog w
 = .ok (.iface 117 (.agg #[.pointer (some ⟨1, 90, none⟩)])) w := by kernel_rfl
theorem methodKind (h : Value) (w : World) : (Go.method 277 117 (.agg #[h]) "Kind").run Tryd.prog w = .ok (98, h) w := by kernel_rfl
theorem kind27 (w : World) : ((ReflectliteType.abiMethod fun t => (fun a : Nat => Value.int IntKind.u8 (a : Int)) <$> Rtype.kind t) #[.pointer (some ⟨1, 90, none⟩)]).run Tryd.prog w = .ok (.int .u8 22) w := by kernel_rfl
theorem kind25 (w : World) : ((ReflectliteType.abiMethod fun t => (fun a : Nat => Value.int IntKind.u8 (a : Int)) <$> Rtype.kind t) #[.pointer (some ⟨1, 88, none⟩)]).run Tryd.prog w = .ok (.int .u8 25) w := by kernel_rfl
theorem rlm (z : Sem Value) (f : TypeId → Addr → Nat → Nat → Sem Value) (v : Value) :
 ReflectliteValue.method z f #[v] = (do match ← ReflectliteValue.parts v with | none => z | some (t, a, fl) => f t a fl (fl % 32)) := rfl
theorem parts27 (a : Addr) (w : World) : (ReflectliteValue.parts (.agg #[.pointer (some ⟨1, 90, none⟩), .pointer (some a), .int .u64 150])).run Tryd.prog w = .ok (some (90, a, 150)) w := by kernel_rfl
theorem isNil27 (a p : Addr) (W : World) (ha : W.cell? a = some (.pointer (some p))) :
  (ReflectliteValue.method (ReflectliteValue.valueError "reflectlite.Value.IsNil" 0) ReflectliteValue.isNil #[.agg #[.pointer (some ⟨1, 90, none⟩), .pointer (some a), .int .u64 150]]).run Tryd.prog W = .ok (.bool false) W := by
 rw [rlm]
 simp only [Sem.run_bind, parts27, Result.andThen]
 simp [ReflectliteValue.isNil, loadVar, isAgg, underlying, Tryd.underlying90, ha, Result.andThen]
theorem methodElem (h : Value) (w : World) : (Go.method 277 117 (.agg #[h]) "Elem").run Tryd.prog w = .ok (108, .agg #[h]) w := by kernel_rfl
theorem methodImplements (h : Value) (w : World) : (Go.method 277 117 (.agg #[h]) "Implements").run Tryd.prog w = .ok (109, .agg #[h]) w := by kernel_rfl
theorem methodAssignableTo (h : Value) (w : World) : (Go.method 277 117 (.agg #[h]) "AssignableTo").run Tryd.prog w = .ok (106, .agg #[h]) w := by kernel_rfl
theorem elem27 (w : World) : (ReflectliteType.method ReflectliteType.elem #[.agg #[.pointer (some ⟨1, 90, none⟩)]]).run Tryd.prog w = .ok (.iface 117 (.agg #[.pointer (some ⟨1, 88, none⟩)])) w := by kernel_rfl
theorem implements25 (w : World) : (ReflectliteType.relation "Implements" ReflectliteType.implements_ #[.agg #[.pointer (some ⟨1, 88, none⟩)], .iface 117 (.agg #[.pointer (some ⟨1, 76, none⟩)])]).run Tryd.prog w = .ok (.bool true) w := by kernel_rfl
theorem typeOf25 (v : Value) (w : World) : (ReflectliteType.typeOf #[.iface 88 v]).run Tryd.prog w = .ok (.iface 117 (.agg #[.pointer (some ⟨1, 88, none⟩)])) w := by kernel_rfl
theorem assignable25 (w : World) : (ReflectliteType.relation "AssignableTo" ReflectliteType.assignableTo #[.agg #[.pointer (some ⟨1, 88, none⟩)], .iface 117 (.agg #[.pointer (some ⟨1, 88, none⟩)])]).run Tryd.prog w = .ok (.bool true) w := by kernel_rfl
theorem valueOf25 (n : Int) (w : World) : (ReflectliteValue.unpack (.iface 88 (.agg #[.int .i64 n]))).run Tryd.prog w
 = .ok (.agg #[.pointer (some ⟨1, 88, none⟩), .pointer (some ⟨w.heap.size, 0, none⟩), .int .u64 153]) (w.alloc (.cells #[.int .i64 n] 88)) := by kernel_rfl
theorem elemOf27 (w : World) : (Rtype.elem? 90).run Tryd.prog w = .ok (some 88) w := by kernel_rfl
theorem mk25 (p : Addr) (w : World) : (ReflectliteValue.mk 88 p ReflectliteValue.flagAddr).run Tryd.prog w = .ok (.agg #[.pointer (some ⟨1, 88, none⟩), .pointer (some p), .int .u64 409]) w := by kernel_rfl
theorem elemV27 (a p : Addr) (W : World) (ha : W.cell? a = some (.pointer (some p))) :
  (ReflectliteValue.method (ReflectliteValue.valueError "reflectlite.Value.Elem" 0) ReflectliteValue.elem #[.agg #[.pointer (some ⟨1, 90, none⟩), .pointer (some a), .int .u64 150]]).run Tryd.prog W
    = .ok (.agg #[.pointer (some ⟨1, 88, none⟩), .pointer (some p), .int .u64 409]) W := by
 rw [rlm]
 simp only [Sem.run_bind, parts27, Result.andThen]
 simp [ReflectliteValue.elem, loadVar, isAgg, underlying, Tryd.underlying90, ha, Result.andThen, elemOf27, mk25]
theorem rls (v x : Value) : ReflectliteValue.set #[v, x] = (do
 let (some (dst, a, fl), some (src, b, _)) := (← ReflectliteValue.parts v, ← ReflectliteValue.parts x)
  | unsupported (.noEntry "extern/(internal/reflectlite.Value).Set.zeroValue")
 if fl / ReflectliteValue.flagAddr % 2 == 0 then unsupported (.noEntry "extern/(internal/reflectlite.Value).Set.unaddressable")
 let val ← loadVar src b
 if ← Rtype.directlyAssignable dst src then storeVar dst a val
 else if ← Rtype.implements dst src then
  if (← Rtype.kind src) == 20 then
   match val with
   | .nilIface => unsupported (.noEntry "extern/reflectlite: a nil value of one interface type handed on as a value of another")
   | _ => storeVar dst a val
  else storeVar dst a (.iface src val)
 else panicString ("reflectlite.Set: value of type " ++ (← Rtype.spelt src) ++ " is not assignable to type " ++ (← Rtype.spelt dst))
 pure (.tuple #[])) := rfl
theorem parts88a (a : Addr) (w : World) : (ReflectliteValue.parts (.agg #[.pointer (some ⟨1, 88, none⟩), .pointer (some a), .int .u64 409])).run Tryd.prog w = .ok (some (88, a, 409)) w := by kernel_rfl
theorem parts25 (a : Addr) (w : World) : (ReflectliteValue.parts (.agg #[.pointer (some ⟨1, 88, none⟩), .pointer (some a), .int .u64 153])).run Tryd.prog w = .ok (some (88, a, 153)) w := by kernel_rfl
theorem direct25 (w : World) : (Rtype.directlyAssignable 88 88).run Tryd.prog w = .ok true w := by kernel_rfl
theorem load88 (b : Addr) (n : Int) (W : World) (hb : W.cell? b = some (.int .i64 n)) : (loadVar 88 b).run Tryd.prog W = .ok (.agg #[.int .i64 n]) W := by
 have h := run_loadCells_list (P := Tryd.prog) W b [.int .i64 n] (fun j v hj => by
  match j, hj with
  | 0, hj => simp at hj; subst hj; simpa [Addr.add] using hb
  | j + 1, hj => simp at hj)
 simp only [List.length_singleton] at h
 simp [loadVar, isAgg, underlying, Tryd.underlying88, Result.andThen, h]
theorem set88 (ta b : Addr) (n : Int) (old : Value) (W : World) (hb : W.cell? b = some (.int .i64 n)) (ht : W.cell? ta = some old) (hf : W.frozen? ta = false) :
  (ReflectliteValue.set #[.agg #[.pointer (some ⟨1, 88, none⟩), .pointer (some ta), .int .u64 409], .agg #[.pointer (some ⟨1, 88, none⟩), .pointer (some b), .int .u64 153]]).run Tryd.prog W
    = .ok (.tuple #[]) (W.setCell ta (.int .i64 n)) := by
 rw [rls]
 simp only [Sem.run_bind, parts88a, parts25, Result.andThen]
 simp [ReflectliteValue.flagAddr, load88 b n W hb, Result.andThen, direct25, storeVar, Value.cells, storeCells, Addr.add]
 rw [run_store Tryd.prog W ta _ _ (by rfl)]
 simp [ht, hf]
end Vm.Told
namespace Vm.Told
open Go Go.Proofs Go.RowKit Go.Extern.Stop Go.Stop Go.Extern
set_option maxRecDepth 20000 in
set_option maxHeartbeats 4000000 in
theorem as_hit (n : Int) (t : Addr) (old : Value) (w : World) (hg : w.cell? ⟨0, 0, none⟩ = some (.iface 117 (.agg #[.pointer (some ⟨1, 76, none⟩)]))) (ht0 : w.cell? t = some old) (hf0 : w.frozen? t = false) :
  Calls Tryd.prog 46 #[.iface 88 (.agg #[.int .i64 n]), .iface 90 (.pointer (some t))] w fun ev w' => ev = .returned (.bool true) ∧ w' = ((((w.alloc (.cells #[.pointer (some t)] 90)).alloc (.cells #[.pointer (some ⟨1, 90, none⟩), .pointer (some ⟨w.heap.size, 0, none⟩), .int .u64 150] 102)).alloc (.cells #[.pointer (some ⟨1, 90, none⟩), .pointer (some ⟨w.heap.size, 0, none⟩), .int .u64 150] 102)).alloc (.cells #[.int .i64 n] 88)).setCell t (.int .i64 n) := by
 have h6 := @run_callFunc_extern Tryd.prog 54 _ (fun args => ReflectliteValue.unpack (args.getD 0 (.tuple #[]))) Tryd.func54 (by kernel_rfl) (by kernel_rfl) (by kernel_rfl) (by kernel_rfl)
 have h7 := @run_callFunc_extern Tryd.prog 55 _ (ReflectliteValue.methodAny (ReflectliteValue.valueError "reflectlite.Value.Type" 0) (fun t _ _ _ => ReflectliteType.toType t)) Tryd.func55 (by kernel_rfl) (by kernel_rfl) (by kernel_rfl) (by kernel_rfl)
 have h8 := @run_callFunc_extern Tryd.prog 56 _ (ReflectliteValue.method (ReflectliteValue.valueError "reflectlite.Value.IsNil" 0) ReflectliteValue.isNil) Tryd.func56 (by kernel_rfl) (by kernel_rfl) (by kernel_rfl) (by kernel_rfl)
 have h27 := @run_callFunc_extern Tryd.prog 98 _ (ReflectliteType.abiMethod fun t => do pure (.int .u8 (← Rtype.kind t))) Tryd.func98 (by kernel_rfl) (by kernel_rfl) (by kernel_rfl) (by kernel_rfl)
 have h37 := @run_callFunc_extern Tryd.prog 108 _ (ReflectliteType.method ReflectliteType.elem) Tryd.func108 (by kernel_rfl) (by kernel_rfl) (by kernel_rfl) (by kernel_rfl)
 have h38 := @run_callFunc_extern Tryd.prog 109 _ (ReflectliteType.relation "Implements" ReflectliteType.implements_) Tryd.func109 (by kernel_rfl) (by kernel_rfl) (by kernel_rfl) (by kernel_rfl)
 have h10 := @run_callFunc_extern Tryd.prog 64 _ ReflectliteType.typeOf Tryd.func64 (by kernel_rfl) (by kernel_rfl) (by kernel_rfl) (by kernel_rfl)
 have h35 := @run_callFunc_extern Tryd.prog 106 _ (ReflectliteType.relation "AssignableTo" ReflectliteType.assignableTo) Tryd.func106 (by kernel_rfl) (by kernel_rfl) (by kernel_rfl) (by kernel_rfl)
 have h11 := @run_callFunc_extern Tryd.prog 65 _ (ReflectliteValue.method (ReflectliteValue.valueError "reflectlite.Value.Elem" 0) ReflectliteValue.elem) Tryd.func65 (by kernel_rfl) (by kernel_rfl) (by kernel_rfl) (by kernel_rfl)
 have h12 := @run_callFunc_extern Tryd.prog 66 _ ReflectliteValue.set Tryd.func66 (by kernel_rfl) (by kernel_rfl) (by kernel_rfl) (by kernel_rfl)
 have tO := typeOf25
 have mA := methodAssignableTo
 have a25 := assignable25
 have v25 := valueOf25
 have f6 := valueOf27
 have f7 := type27
 have mK := methodKind
 have mE := methodElem
 have mI := methodImplements
 have k27 := kind27
 have k25 := kind25
 have e27 := elem27
 have i25 := implements25
 have n8 := isNil27 ⟨w.heap.size, 0, none⟩ t ((w.alloc (.cells #[.pointer (some t)] 90)).alloc (.cells #[.pointer (some ⟨1, 90, none⟩), .pointer (some ⟨w.heap.size, 0, none⟩), .int .u64 150] 102)) (by simp)
 have hlt : 0 < w.heap.size := by
  rcases Nat.eq_zero_or_pos w.heap.size with h0 | h
  ·simp [World.cell?, h0] at hg
  ·exact h
 have hg2 : ((w.alloc (.cells #[.pointer (some t)] 90)).alloc (.cells #[.pointer (some ⟨1, 90, none⟩), .pointer (some ⟨w.heap.size, 0, none⟩), .int .u64 150] 102)).cell? ⟨0, 0, none⟩ = some (.iface 117 (.agg #[.pointer (some ⟨1, 76, none⟩)])) := by
  rw [World.cell?_alloc_lt _ _ ⟨0, 0, none⟩ (by simp), World.cell?_alloc_lt _ _ ⟨0, 0, none⟩ hlt]; exact hg
 have htl : t.block < w.heap.size := by
  rcases Nat.lt_or_ge t.block w.heap.size with h | h
  ·exact h
  ·simp [World.cell?, Array.getElem?_eq_none h] at ht0
 have el := elemV27 ⟨w.heap.size, 0, none⟩ t (((w.alloc (.cells #[.pointer (some t)] 90)).alloc (.cells #[.pointer (some ⟨1, 90, none⟩), .pointer (some ⟨w.heap.size, 0, none⟩), .int .u64 150] 102)).alloc (.cells #[.pointer (some ⟨1, 90, none⟩), .pointer (some ⟨w.heap.size, 0, none⟩), .int .u64 150] 102)) (by rw [World.cell?_alloc_lt _ _ ⟨w.heap.size, 0, none⟩ (by simp; omega)]; simp)
 have st := set88 t ⟨w.heap.size + 1 + 1 + 1, 0, none⟩ n old ((((w.alloc (.cells #[.pointer (some t)] 90)).alloc (.cells #[.pointer (some ⟨1, 90, none⟩), .pointer (some ⟨w.heap.size, 0, none⟩), .int .u64 150] 102)).alloc (.cells #[.pointer (some ⟨1, 90, none⟩), .pointer (some ⟨w.heap.size, 0, none⟩), .int .u64 150] 102)).alloc (.cells #[.int .i64 n] 88))
  (by rw [World.cell?_alloc_at _ _ _ _ (by simp)]; rfl)
  (by rw [World.cell?_alloc_lt _ _ t (by simp; omega), World.cell?_alloc_lt _ _ t (by simp; omega), World.cell?_alloc_lt _ _ t (by simp; omega), World.cell?_alloc_lt _ _ t htl]; exact ht0)
  (by rw [World.frozen?_alloc_old _ _ t (by simp; omega), World.frozen?_alloc_old _ _ t (by simp; omega), World.frozen?_alloc_old _ _ t (by simp; omega), World.frozen?_alloc_old _ _ t (Nat.ne_of_lt htl)]; exact hf0)
 go_enter Tryd.func46, Tryd.ntmps46
 go_wp2
 refine wp_loop_rounds 1 ?_
 rw [rounds_succ]
 go_wp2
 go_ret
 exact ⟨rfl, rfl⟩
end Vm.Told
namespace Vm.Told
open Go Go.Proofs Go.RowKit Go.Extern.Stop Go.Stop Go.Extern
set_option maxRecDepth 20000 in
set_option maxHeartbeats 4000000 in
theorem told_hit (n : Int) (w : World) (hg : w.cell? ⟨0, 0, none⟩ = some (.iface 117 (.agg #[.pointer (some ⟨1, 76, none⟩)]))) :
  Calls Tryd.prog 38 #[.iface 88 (.agg #[.int .i64 n])] w fun e w' => e = .returned (.int .i64 n) ∧ w' = ((((w.alloc (.cells #[.int .i64 n] 88)).alloc (.cells #[.pointer (some ⟨w.heap.size, 0, none⟩)] 90)).alloc (.cells #[.pointer (some ⟨1, 90, none⟩), .pointer (some ⟨w.heap.size + 1, 0, none⟩), .int .u64 150] 102)).alloc (.cells #[.pointer (some ⟨1, 90, none⟩), .pointer (some ⟨w.heap.size + 1, 0, none⟩), .int .u64 150] 102)).alloc (.cells #[.int .i64 n] 88) := by
 have hlt : 0 < w.heap.size := by
  rcases Nat.eq_zero_or_pos w.heap.size with h0 | h
  ·simp [World.cell?, h0] at hg
  ·exact h
 have hgA : (w.alloc (.cells #[.int .i64 0] 88)).cell? ⟨0, 0, none⟩ = some (.iface 117 (.agg #[.pointer (some ⟨1, 76, none⟩)])) := by
  rw [World.cell?_alloc_lt _ _ ⟨0, 0, none⟩ hlt]; exact hg
 have htA : (w.alloc (.cells #[.int .i64 0] 88)).cell? ⟨w.heap.size, 0, none⟩ = some (.int .i64 0) := by simp
 have hfA : (w.alloc (.cells #[.int .i64 0] 88)).frozen? ⟨w.heap.size, 0, none⟩ = false := by simp
 go_enter Tryd.func38, Tryd.ntmps38
 go_wp2_with (first | (go_at_call 46; refine (as_hit n _ (.int .i64 0) _ hgA htA hfA).mono ?_; rintro e w' ⟨rfl, rfl⟩))
 go_ret
 exact ⟨rfl, rfl⟩
end Vm.Told
open Go Go.Proofs
namespace Vm.S14
theorem f38_says (n : Int) : Contract Tryd.prog gls 38 [.iface 88 (.agg [.int .i64 n])] [] (.int .i64 n) [] := by
 intro w A η hok cs hrep hdom o a Q K hK
 have hcs : cs = #[.iface 88 (.agg #[.int .i64 n])] := by
  obtain ⟨l⟩ := cs
  simp only [V.RepL] at hrep
  obtain ⟨c, l', h1, h2, h3⟩ := hrep
  simp only [V.Rep] at h2
  obtain ⟨u, rfl, h2⟩ := h2
  simp only [V.Rep, V.RepL] at h2
  obtain ⟨cs, rfl, c, cs', e1, rfl, rfl⟩ := h2
  subst h3; subst h1
  obtain ⟨cl⟩ := cs
  simp only at e1
  subst e1
  rfl
 subst hcs
 have hg := (hok.glob.2 0 _ rfl).2
 have hcall : (callFunc 38 #[.iface 88 (.agg #[.int .i64 n])]).run Tryd.prog w = .ok (.enter 38 #[.iface 88 (.agg #[.int .i64 n])]) w := by
  simp only [callFunc, Sem.run_bind, run_program, Result.andThen_ok, Tryd.func38]
  rfl
 unfold callV
 rw [if_pos (by decide), hcall, Oper.uponIn_enter]
 refine ⟨fun h => by simp [Fence.wide] at h, callsIn_wide.2 ((Told.told_hit n w hg.cell?).mono ?_)⟩
 rintro e w' ⟨rfl, rfl⟩
 have soft : ∀ (c : Array Value) (T : TypeId), Soft (.cells c T) := fun c T c' T' fz e => by cases e; rfl
 have s1 := HStep.push (gl := gls) (m := 0) hok (soft #[.int .i64 n] 88)
 have s2 := HStep.push (gl := gls) (m := 0) s1.ok (soft #[.pointer (some ⟨w.heap.size, 0, none⟩)] 90)
 have s3 := HStep.push (gl := gls) (m := 0) s2.ok (soft #[.pointer (some ⟨1, 90, none⟩), .pointer (some ⟨w.heap.size + 1, 0, none⟩), .int .u64 150] 102)
 have s4 := HStep.push (gl := gls) (m := 0) s3.ok (soft #[.pointer (some ⟨1, 90, none⟩), .pointer (some ⟨w.heap.size + 1, 0, none⟩), .int .u64 150] 102)
 have s5 := HStep.push (gl := gls) (m := 0) s4.ok (soft #[.int .i64 n] 88)
 have st := (((s1.trans' s2).trans' s3).trans' s4).trans' s5
 exact hK (.int .i64 n) _ A η st.ok st.link (by simp [V.Rep]) (by simp [V.ids])
noncomputable def f38e : Entry Tryd.prog gls where
 f := 38
 g args os := match args, os with
   | [.iface 88 (.agg [.int .i64 n])], [] => some (true, .int .i64 n, [])
   | _, _ => none
 says := by
  intro args os c v os' h _
  split at h
  ·cases h; exact f38_says _
  ·cases h
noncomputable def es29 : List (Entry Tryd.prog gls) := [f38e] ++ es28
noncomputable def E29 (n : Nat) : Env := interp fns (look tys) gls mvs (tabOf es29) 100000 n
theorem ready29 (n : Nat) : Ready Tryd.prog (E29 n) := ready_of mixed fnsAll tysOk rfsOk n
theorem glE29 (n : Nat) : (E29 n).gl = gls := by cases n <;> rfl
end Vm.S14
open Go Go.Proofs Go.IntKind
namespace Vm.S14
variable {R : Type} (J : List Item → St → Option R) (kk : V → List Ob → Option R)
noncomputable abbrev f15cuts : Cuts := fun _ => none
noncomputable abbrev k15 {Q : Type} (k : V → List Ob → Option Q) := vend (E29 8) 1 (fb Tryd.f15).1.results.toList false k
noncomputable abbrev k13 {Q : Type} (k : V → List Ob → Option Q) := vend (E29 8) 0 (fb Tryd.f13).1.results.toList false k
noncomputable abbrev k19 {Q : Type} (k : V → List Ob → Option Q) := vend (E29 8) 4 (fb Tryd.f19).1.results.toList false k
theorem f15_go (p : PS) (n : Int) :
 vseg (E29 8) f15cuts 1 J (k15 kk) 100000 true [.code (fb Tryd.f15).2] (start ([V.ref (0 : Nat) (0 : Nat) (0 : Nat) (0 : Nat), V.int i64 n]) ([Ob.var [V.int i64 p.place, V.int i64 p.left, V.int i64 p.num, V.int i64 p.den, V.int i64 p.from_, V.int i64 p.to_, V.own (1 : Nat), V.own (2 : Nat), V.map (3 : Nat), V.bool p.on], Ob.arr rNote p.notes false, Ob.arr rB p.down false, Ob.map rK2 true rI false p.cnt])) =
 (bif decide ((0 : Int) ≤ n) then
 (bif !decide (n ≤ 1000000000) then
 kk (V.tuple [V.nilsl, V.int i64 (2 : Int)]) ([Ob.var [V.int i64 p.place, V.int i64 p.left, V.int i64 p.num, V.int i64 p.den, V.int i64 p.from_, V.int i64 p.to_, V.own 1, V.own 2, V.map 3, V.bool p.on], Ob.arr rNote p.notes false, Ob.arr rB p.down false, Ob.map rK2 true rI false p.cnt])
 else (bif !p.on then
 kk (V.tuple [V.nilsl, V.int i64 (0 : Int)]) ([Ob.var [V.int i64 p.place, V.int i64 p.left, V.int i64 p.num, V.int i64 p.den, V.int i64 p.from_, V.int i64 p.to_, V.own 1, V.own 2, V.map 3, V.bool p.on], Ob.arr rNote p.notes false, Ob.arr rB p.down false, Ob.map rK2 true rI false p.cnt])
 else (bif decide (p.den = 0) then
 none
 else (bif decide (p.den = 0) then
 none
 else (bif decide ((0 : Int) < p.to_) then
 (bif decide (p.place < p.to_) then
 (bif decide (i64.wrap (p.to_ - p.place) ≤ i64.wrap ((i64.wrap (p.left + i64.wrap (n * p.num))).tdiv p.den)) then
 (bif decide (i64.wrap (p.to_ - p.from_) = 0) then
 none
 else (bif decide ((10000 : Int) < i64.wrap ((1 : Int) + i64.wrap ((i64.wrap (i64.wrap ((i64.wrap (p.left + i64.wrap (n * p.num))).tdiv p.den) - i64.wrap (p.to_ - p.place))).tdiv (i64.wrap (p.to_ - p.from_))))) then
 kk (V.tuple [V.nilsl, V.int i64 (2 : Int)]) ([Ob.var [V.int i64 p.place, V.int i64 p.left, V.int i64 p.num, V.int i64 p.den, V.int i64 p.from_, V.int i64 p.to_, V.own 1, V.own 2, V.map 3, V.bool p.on], Ob.arr rNote p.notes false, Ob.arr rB p.down false, Ob.map rK2 true rI false p.cnt])
 else (bif pgoB (PS.mk p.place ((i64.wrap (p.left + i64.wrap (n * p.num))).tmod p.den) p.num p.den p.from_ p.to_ p.notes p.down p.cnt p.on) (i64.wrap ((i64.wrap (p.left + i64.wrap (n * p.num))).tdiv p.den)) then
 kk (V.tuple [V.sl rSig (goesR p.notes p.from_ p.to_ (i64.wrap ((i64.wrap (p.left + i64.wrap (n * p.num))).tdiv p.den)) (p.place, p.down, p.cnt, [])).snd.snd.snd, V.int i64 (0 : Int)]) ([Ob.var [V.int i64 (goesR p.notes p.from_ p.to_ (i64.wrap ((i64.wrap (p.left + i64.wrap (n * p.num))).tdiv p.den)) (p.place, p.down, p.cnt, [])).fst, V.int i64 ((i64.wrap (p.left + i64.wrap (n * p.num))).tmod p.den), V.int i64 p.num, V.int i64 p.den, V.int i64 p.from_, V.int i64 p.to_, V.own 1, V.own 2, V.map 3, V.bool p.on], Ob.arr rNote p.notes false, Ob.arr rB (goesR p.notes p.from_ p.to_ (i64.wrap ((i64.wrap (p.left + i64.wrap (n * p.num))).tdiv p.den)) (p.place, p.down, p.cnt, [])).snd.fst false, Ob.map rK2 true rI false (goesR p.notes p.from_ p.to_ (i64.wrap ((i64.wrap (p.left + i64.wrap (n * p.num))).tdiv p.den)) (p.place, p.down, p.cnt, [])).snd.snd.fst])
 else none)))
 else (bif decide ((2000000000000000 : Int) < i64.wrap (p.place + i64.wrap ((i64.wrap (p.left + i64.wrap (n * p.num))).tdiv p.den))) then
 kk (V.tuple [V.nilsl, V.int i64 (2 : Int)]) ([Ob.var [V.int i64 p.place, V.int i64 p.left, V.int i64 p.num, V.int i64 p.den, V.int i64 p.from_, V.int i64 p.to_, V.own 1, V.own 2, V.map 3, V.bool p.on], Ob.arr rNote p.notes false, Ob.arr rB p.down false, Ob.map rK2 true rI false p.cnt])
 else (bif pgoB (PS.mk p.place ((i64.wrap (p.left + i64.wrap (n * p.num))).tmod p.den) p.num p.den p.from_ p.to_ p.notes p.down p.cnt p.on) (i64.wrap ((i64.wrap (p.left + i64.wrap (n * p.num))).tdiv p.den)) then
 kk (V.tuple [V.sl rSig (goesR p.notes p.from_ p.to_ (i64.wrap ((i64.wrap (p.left + i64.wrap (n * p.num))).tdiv p.den)) (p.place, p.down, p.cnt, [])).snd.snd.snd, V.int i64 (0 : Int)]) ([Ob.var [V.int i64 (goesR p.notes p.from_ p.to_ (i64.wrap ((i64.wrap (p.left + i64.wrap (n * p.num))).tdiv p.den)) (p.place, p.down, p.cnt, [])).fst, V.int i64 ((i64.wrap (p.left + i64.wrap (n * p.num))).tmod p.den), V.int i64 p.num, V.int i64 p.den, V.int i64 p.from_, V.int i64 p.to_, V.own 1, V.own 2, V.map 3, V.bool p.on], Ob.arr rNote p.notes false, Ob.arr rB (goesR p.notes p.from_ p.to_ (i64.wrap ((i64.wrap (p.left + i64.wrap (n * p.num))).tdiv p.den)) (p.place, p.down, p.cnt, [])).snd.fst false, Ob.map rK2 true rI false (goesR p.notes p.from_ p.to_ (i64.wrap ((i64.wrap (p.left + i64.wrap (n * p.num))).tdiv p.den)) (p.place, p.down, p.cnt, [])).snd.snd.fst])
 else none)))
 else (bif decide ((2000000000000000 : Int) < i64.wrap (p.place + i64.wrap ((i64.wrap (p.left + i64.wrap (n * p.num))).tdiv p.den))) then
 kk (V.tuple [V.nilsl, V.int i64 (2 : Int)]) ([Ob.var [V.int i64 p.place, V.int i64 p.left, V.int i64 p.num, V.int i64 p.den, V.int i64 p.from_, V.int i64 p.to_, V.own 1, V.own 2, V.map 3, V.bool p.on], Ob.arr rNote p.notes false, Ob.arr rB p.down false, Ob.map rK2 true rI false p.cnt])
 else (bif pgoB (PS.mk p.place ((i64.wrap (p.left + i64.wrap (n * p.num))).tmod p.den) p.num p.den p.from_ p.to_ p.notes p.down p.cnt p.on) (i64.wrap ((i64.wrap (p.left + i64.wrap (n * p.num))).tdiv p.den)) then
 kk (V.tuple [V.sl rSig (goesR p.notes p.from_ p.to_ (i64.wrap ((i64.wrap (p.left + i64.wrap (n * p.num))).tdiv p.den)) (p.place, p.down, p.cnt, [])).snd.snd.snd, V.int i64 (0 : Int)]) ([Ob.var [V.int i64 (goesR p.notes p.from_ p.to_ (i64.wrap ((i64.wrap (p.left + i64.wrap (n * p.num))).tdiv p.den)) (p.place, p.down, p.cnt, [])).fst, V.int i64 ((i64.wrap (p.left + i64.wrap (n * p.num))).tmod p.den), V.int i64 p.num, V.int i64 p.den, V.int i64 p.from_, V.int i64 p.to_, V.own 1, V.own 2, V.map 3, V.bool p.on], Ob.arr rNote p.notes false, Ob.arr rB (goesR p.notes p.from_ p.to_ (i64.wrap ((i64.wrap (p.left + i64.wrap (n * p.num))).tdiv p.den)) (p.place, p.down, p.cnt, [])).snd.fst false, Ob.map rK2 true rI false (goesR p.notes p.from_ p.to_ (i64.wrap ((i64.wrap (p.left + i64.wrap (n * p.num))).tdiv p.den)) (p.place, p.down, p.cnt, [])).snd.snd.fst])
 else none)))
 else (bif decide ((2000000000000000 : Int) < i64.wrap (p.place + i64.wrap ((i64.wrap (p.left + i64.wrap (n * p.num))).tdiv p.den))) then
 kk (V.tuple [V.nilsl, V.int i64 (2 : Int)]) ([Ob.var [V.int i64 p.place, V.int i64 p.left, V.int i64 p.num, V.int i64 p.den, V.int i64 p.from_, V.int i64 p.to_, V.own 1, V.own 2, V.map 3, V.bool p.on], Ob.arr rNote p.notes false, Ob.arr rB p.down false, Ob.map rK2 true rI false p.cnt])
 else (bif pgoB (PS.mk p.place ((i64.wrap (p.left + i64.wrap (n * p.num))).tmod p.den) p.num p.den p.from_ p.to_ p.notes p.down p.cnt p.on) (i64.wrap ((i64.wrap (p.left + i64.wrap (n * p.num))).tdiv p.den)) then
 kk (V.tuple [V.sl rSig (goesR p.notes p.from_ p.to_ (i64.wrap ((i64.wrap (p.left + i64.wrap (n * p.num))).tdiv p.den)) (p.place, p.down, p.cnt, [])).snd.snd.snd, V.int i64 (0 : Int)]) ([Ob.var [V.int i64 (goesR p.notes p.from_ p.to_ (i64.wrap ((i64.wrap (p.left + i64.wrap (n * p.num))).tdiv p.den)) (p.place, p.down, p.cnt, [])).fst, V.int i64 ((i64.wrap (p.left + i64.wrap (n * p.num))).tmod p.den), V.int i64 p.num, V.int i64 p.den, V.int i64 p.from_, V.int i64 p.to_, V.own 1, V.own 2, V.map 3, V.bool p.on], Ob.arr rNote p.notes false, Ob.arr rB (goesR p.notes p.from_ p.to_ (i64.wrap ((i64.wrap (p.left + i64.wrap (n * p.num))).tdiv p.den)) (p.place, p.down, p.cnt, [])).snd.fst false, Ob.map rK2 true rI false (goesR p.notes p.from_ p.to_ (i64.wrap ((i64.wrap (p.left + i64.wrap (n * p.num))).tdiv p.den)) (p.place, p.down, p.cnt, [])).snd.snd.fst])
 else none)))))))
 else kk (V.tuple [V.nilsl, V.int i64 (2 : Int)]) ([Ob.var [V.int i64 p.place, V.int i64 p.left, V.int i64 p.num, V.int i64 p.den, V.int i64 p.from_, V.int i64 p.to_, V.own 1, V.own 2, V.map 3, V.bool p.on], Ob.arr rNote p.notes false, Ob.arr rB p.down false, Ob.map rK2 true rI false p.cnt])) := by kernel_rfl
noncomputable abbrev f13acuts : Cuts := fun _ => none
theorem f13a_go :
 vseg (E29 8) f13acuts 0 J (k13 kk) 100000 true [.code (fb Tryd.f13).2] (start ([V.sl rNote []]) ([])) =
 kk (V.tuple [V.ref 0 0 0 0, V.int i64 (0 : Int)]) ([Ob.var [V.int i64 (0 : Int), V.int i64 (0 : Int), V.int i64 (1 : Int), V.int i64 (1 : Int), V.int i64 (0 : Int), V.int i64 (0 : Int), V.own 1, V.own 2, V.map 3, V.bool false], Ob.arr rNote [] false, Ob.arr rB [] false, Ob.map rK2 true rI false []]) := by kernel_rfl
noncomputable abbrev f13bcuts : Cuts := fun _ => none
theorem f13b_go (x : Nt) (q : List Nt) :
 vseg (E29 8) f13bcuts 0 J (k13 kk) 100000 true [.code (fb Tryd.f13).2] (start ([V.sl rNote (x :: q)]) ([])) =
 (bif decide ((10000 : Int) < (↑(x :: q).length : Int)) then
 kk (V.tuple [V.nilp, V.int i64 (140 : Int)]) ([])
 else (bif decide ((x :: q).length < 4611686018427387904) then
 (bif decide ((0 : Int) ≤ badAt (x :: q) (0 : Int)) then
 kk (V.tuple [V.nilp, V.int i64 (140 : Int)]) ([])
 else (bif decide ((0 : Int) ≤ 0 ∧ (0 : Int) ≤ (↑(x :: q).length : Int) ∧ (↑(x :: q).length : Int) ≤ (↑(x :: q).length : Int) ∧ (↑(x :: q).length : Int) ≤ (↑(x :: q).length : Int)) then
 (bif decide (((List.replicate (0 : Nat) (Int.ofNat (0 : Nat), Int.ofNat (0 : Nat), Int.ofNat (0 : Nat), Int.ofNat (0 : Nat), Int.ofNat (0 : Nat), Int.ofNat (0 : Nat), Int.ofNat (0 : Nat), Int.ofNat (0 : Nat), Int.ofNat (0 : Nat), Int.ofNat (0 : Nat))).length + (List.take ((↑(x :: q).length : Int).toNat - Int.toNat (0 : Int)) (List.drop (Int.toNat (0 : Int)) (x :: q))).length) * 80 ≤ bytesMost) then
 (bif (own43 (List.replicate (0 : Nat) (Int.ofNat (0 : Nat), Int.ofNat (0 : Nat), Int.ofNat (0 : Nat), Int.ofNat (0 : Nat), Int.ofNat (0 : Nat), Int.ofNat (0 : Nat), Int.ofNat (0 : Nat), Int.ofNat (0 : Nat), Int.ofNat (0 : Nat), Int.ofNat (0 : Nat)) ++ List.take ((↑(x :: q).length : Int).toNat - Int.toNat (0 : Int)) (List.drop (Int.toNat (0 : Int)) (x :: q))) (↑(List.replicate (0 : Nat) (Int.ofNat (0 : Nat), Int.ofNat (0 : Nat), Int.ofNat (0 : Nat), Int.ofNat (0 : Nat), Int.ofNat (0 : Nat), Int.ofNat (0 : Nat), Int.ofNat (0 : Nat), Int.ofNat (0 : Nat), Int.ofNat (0 : Nat), Int.ofNat (0 : Nat)) ++ List.take ((↑(x :: q).length : Int).toNat - Int.toNat (0 : Int)) (List.drop (Int.toNat (0 : Int)) (x :: q))).length : Int)).fst then
 (bif decide ((0 : Int) ≤ (↑(x :: q).length : Int) ∧ (↑(x :: q).length : Int) ≤ (↑(x :: q).length : Int) ∧ (↑(x :: q).length : Int) * (↑(1 : Nat) : Int) ≤ (↑bytesMost : Int) ∧ (↑(x :: q).length : Int) ≤ (↑bytesMost : Int) ∧ (1 : Nat) = rB.len ∧ (0 : Nat) < 1) then
 kk (V.tuple [V.ref 0 0 0 0, V.int i64 (0 : Int)]) ([Ob.var [V.int i64 (0 : Int), V.int i64 (0 : Int), V.int i64 (1 : Int), V.int i64 (1 : Int), V.int i64 (0 : Int), V.int i64 (0 : Int), V.own 1, V.own 2, V.map 3, V.bool false], Ob.arr rNote (stabN (List.replicate (0 : Nat) (Int.ofNat (0 : Nat), Int.ofNat (0 : Nat), Int.ofNat (0 : Nat), Int.ofNat (0 : Nat), Int.ofNat (0 : Nat), Int.ofNat (0 : Nat), Int.ofNat (0 : Nat), Int.ofNat (0 : Nat), Int.ofNat (0 : Nat), Int.ofNat (0 : Nat)) ++ List.take ((↑(x :: q).length : Int).toNat - Int.toNat (0 : Int)) (List.drop (Int.toNat (0 : Int)) (x :: q)))) false, Ob.arr rB (List.replicate (↑(x :: q).length : Int).toNat false) false, Ob.map rK2 true rI false []])
 else none)
 else none)
 else none)
 else none))
 else none)) := by kernel_rfl
noncomputable abbrev f19Fcuts : Cuts := fun _ => none
theorem f19F_go (p : PS) :
 vseg (E29 8) f19Fcuts 4 J (k19 kk) 100000 true [.code (fb Tryd.f19).2] (start ([V.ref (0 : Nat) (0 : Nat) (0 : Nat) (0 : Nat)]) ([Ob.var [V.int i64 p.place, V.int i64 p.left, V.int i64 p.num, V.int i64 p.den, V.int i64 p.from_, V.int i64 p.to_, V.own (1 : Nat), V.own (2 : Nat), V.map (3 : Nat), V.bool p.on], Ob.arr rNote p.notes false, Ob.arr rB p.down false, Ob.map rK2 true rI false p.cnt])) =
 (bif ckK (keysUp p.cnt) && decide (List.length p.cnt < 256) then
 kk (V.sl rK2 (keysL p.cnt)) ([Ob.var [V.int i64 p.place, V.int i64 p.left, V.int i64 p.num, V.int i64 p.den, V.int i64 p.from_, V.int i64 p.to_, V.own 1, V.own 2, V.map 3, V.bool p.on], Ob.arr rNote p.notes false, Ob.arr rB p.down false, Ob.map rK2 true rI false p.cnt])
 else none) := by kernel_rfl
noncomputable abbrev f12cuts : Cuts := fun _ => none
noncomputable abbrev k12 {Q : Type} (k : V → List Ob → Option Q) := vend (E29 8) 0 (fb Tryd.f12).1.results.toList false k
theorem f12_go (l : List Nt) :
 vseg (E29 8) f12cuts 0 J (k12 kk) 100000 true [.code (fb Tryd.f12).2] (start ([V.sl rNote l]) ([])) =
 (bif decide ((0 : Int) ≤ 0 ∧ ((0 : Int) ≤ if (30 : Int) < (↑l.length : Int) then (30 : Int) else (↑l.length : Int)) ∧ (if (30 : Int) < (↑l.length : Int) then (30 : Int) else (↑l.length : Int)) ≤ (↑l.length : Int) ∧ (↑l.length : Int) ≤ (↑l.length : Int)) then
 kk (V.sl rNote (List.take ((if (30 : Int) < (↑l.length : Int) then (30 : Int) else (↑l.length : Int)).toNat - Int.toNat (0 : Int)) (List.drop (Int.toNat (0 : Int)) l))) ([])
 else none) := by kernel_rfl
noncomputable abbrev f19Ncuts : Cuts := fun _ => none
theorem f19N_go :
 vseg (E29 8) f19Ncuts 0 J (vend (E29 8) 0 (fb Tryd.f19).1.results.toList false kk) 100000 true [.code (fb Tryd.f19).2] (start ([V.nilp]) ([])) =
 kk (V.nilsl) ([]) := by kernel_rfl
end Vm.S14
open Go Go.Proofs
namespace Vm.S14
def TlS (v : V) (t : Told) : Prop := v = .tuple [.sl rSig t.1, .int .i64 t.2] ∨ (t.1 = [] ∧ v = .tuple [.nilsl, .int .i64 t.2])
theorem tl_rep {t : Told} {w : World} {A : ASet} {η : Nat → Option Nat} {h : Nat → Option Ob} {c : Value} (ht : t.1 = []) (hr : V.Rep w A η h (.tuple [.nilsl, .int .i64 t.2]) c) : V.Rep w A η h (.tuple [.sl rSig t.1, .int .i64 t.2]) c := by
 rw [ht]
 simp only [V.Rep, V.RepL] at hr ⊢
 obtain ⟨cs, rfl, c1, l1, e1, h2, c2, l2, e2, h3, e3⟩ := hr
 refine ⟨cs, rfl, c1, l1, e1, ?_, c2, l2, e2, h3, e3⟩
 simp only [K.Rep]
 exact ⟨none, 0, h2, Nat.le_refl _, fun _ => rfl, fun ad e _ => (by cases e)⟩
theorem pok_goes {p : PS} (h : POk p) {n : Int} (h0 : 0 ≤ n) (h1 : n ≤ 1000000000) : goesR p.notes p.from_ p.to_ (p.tickN n) (p.place, p.down, p.cnt, []) = p.walk (p.tickN n) := by
 have hq := (h.tickN h0 h1).1
 have e : p.tickN n = ((p.tickN n).toNat : Int) := by omega
 unfold PS.walk
 conv => lhs; rw [e]
 exact goesR_runs p.notes p.from_ p.to_ h.ft _ _ h.inv.len
theorem pok_pgo {p : PS} (h : POk p) {n : Int} (h0 : 0 ≤ n) (h1 : n ≤ 1000000000) (hf : ¬ p.far (p.tickN n)) (lf : Int) : pgoB ⟨p.place, lf, p.num, p.den, p.from_, p.to_, p.notes, p.down, p.cnt, p.on⟩ (p.tickN n) = true := by
 obtain ⟨q0, q1⟩ := h.tickN h0 h1
 have := h.pl1; have := h.t1
 refine pgoB_eq ⟨h.few, h.right, h.inv, h.pl0, by show p.place ≤ _; omega, q0, by omega, h.f0, by show p.to_ ≤ _; omega, h.ft, ?_⟩
 show turns p.from_ p.to_ p.place (p.tickN n) ≤ 10010
 unfold turns
 split
 ·split
  ·rename_i hL
   by_cases hx : 10000 < 1 + (p.tickN n - (p.to_ - p.place)) / (p.to_ - p.from_)
   ·exact absurd (.inl ⟨hL, hx⟩) hf
   ·omega
  ·omega
 ·omega
section
variable {R : Type} (kk : V → List Ob → Option R)
theorem f15_run (p : PS) (n : Int) (h : POk p) : ∃ v, TlS v (p.tick n).1 ∧
  vrun (E29 8) f15cuts 1 100000 (k15 kk) 1 [.code (fb Tryd.f15).2] (start [.ref 0 0 0 0, .int .i64 n] p.obs) = kk v (PS.obs (p.tick n).2) := by
 rw [vrun_succ, f15_go]
 unfold PS.tick
 by_cases h0 : 0 ≤ n
 ·rw [bif_pos (by exact decide_eq_true h0)]
  by_cases h1 : n ≤ 1000000000
  ·rw [bif_neg (by simp [h1]), if_pos ⟨h0, h1⟩]
   by_cases hon : p.on = true
   ·rw [bif_neg (by simp [hon]), if_pos hon]
    obtain ⟨m0, m1⟩ := h.nq h0 h1
    obtain ⟨q0, q1⟩ := h.tickN h0 h1
    have b1 := h.pl0; have b2 := h.pl1; have b3 := h.f0; have b4 := h.t0; have b5 := h.t1; have b6 := h.d0; have b7 := h.l0; have b8 := h.l1; have b9 := h.d1; have b10 := h.ft; have b11 := h.f1
    have w1 : IntKind.wrap .i64 (n * p.num) = n * p.num := wrap64 (by omega) (by omega)
    have w2 : IntKind.wrap .i64 (p.left + n * p.num) = p.left + n * p.num := wrap64 (by omega) (by omega)
    have w3 : (p.left + n * p.num).tdiv p.den = p.tickN n := Int.tdiv_eq_ediv_of_nonneg m0
    have w4 : IntKind.wrap .i64 (p.tickN n) = p.tickN n := wrap64 (by omega) (by omega)
    have w5 : (p.left + n * p.num).tmod p.den = p.tickL n := Int.tmod_eq_emod_of_nonneg m0
    have w6 : IntKind.wrap .i64 (p.to_ - p.place) = p.to_ - p.place := wrap64 (by omega) (by omega)
    have w7 : IntKind.wrap .i64 (p.to_ - p.from_) = p.to_ - p.from_ := wrap64 (by omega) (by omega)
    have w8 : IntKind.wrap .i64 (p.place + p.tickN n) = p.place + p.tickN n := wrap64 (by omega) (by omega)
    rw [w1, w2, w3, w4, w5, w6, w7, w8]
    rw [bif_neg (by exact decide_eq_false (by omega)), bif_neg (by exact decide_eq_false (by omega))]
    have go : ∀ (hf : ¬ p.far (p.tickN n)), ∃ v, TlS v ((p.walk (p.tickN n)).2.2.2, (0 : Int)) ∧ (bif pgoB { place := p.place, left := p.tickL n, num := p.num, den := p.den, from_ := p.from_, to_ := p.to_, notes := p.notes, down := p.down, cnt := p.cnt, on := p.on } (p.tickN n) then
      kk (.tuple [.sl rSig (goesR p.notes p.from_ p.to_ (p.tickN n) (p.place, p.down, p.cnt, [])).2.2.2, .int .i64 0]) (PS.obs ⟨(goesR p.notes p.from_ p.to_ (p.tickN n) (p.place, p.down, p.cnt, [])).1, p.tickL n, p.num, p.den, p.from_, p.to_, p.notes, (goesR p.notes p.from_ p.to_ (p.tickN n) (p.place, p.down, p.cnt, [])).2.1, (goesR p.notes p.from_ p.to_ (p.tickN n) (p.place, p.down, p.cnt, [])).2.2.1, p.on⟩) else none) = kk v (PS.obs (p.went n)) := by
     intro hf
     refine ⟨_, .inl rfl, ?_⟩
     rw [bif_pos (pok_pgo h h0 h1 hf _), pok_goes h h0 h1]
     rfl
    have ng : p.far (p.tickN n) → ∃ v, TlS v (if p.far (p.tickN n) then (([], 2), p) else (((p.walk (p.tickN n)).2.2.2, 0), p.went n) : Told × PS).1 ∧ kk (.tuple [.nilsl, .int .i64 2]) p.obs = kk v (PS.obs (if p.far (p.tickN n) then (([], 2), p) else (((p.walk (p.tickN n)).2.2.2, 0), p.went n) : Told × PS).2) := by
     intro hf
     rw [if_pos hf]
     exact ⟨_, .inr ⟨rfl, rfl⟩, rfl⟩
    by_cases hL : Looped p.from_ p.to_ p.place (p.tickN n)
    ·obtain ⟨c1, c2, c3⟩ := id hL
     have c4 := b10 c1
     rw [bif_pos (by exact decide_eq_true c1), bif_pos (by exact decide_eq_true c2), bif_pos (by exact decide_eq_true c3), bif_neg (by exact decide_eq_false (by omega))]
     have w9 : IntKind.wrap .i64 (p.tickN n - (p.to_ - p.place)) = p.tickN n - (p.to_ - p.place) := wrap64 (by omega) (by omega)
     have w10 : (p.tickN n - (p.to_ - p.place)).tdiv (p.to_ - p.from_) = (p.tickN n - (p.to_ - p.place)) / (p.to_ - p.from_) := Int.tdiv_eq_ediv_of_nonneg (by omega)
     have d0 : 0 ≤ (p.tickN n - (p.to_ - p.place)) / (p.to_ - p.from_) := Int.ediv_nonneg (by omega) (by omega)
     have d1 : (p.tickN n - (p.to_ - p.place)) / (p.to_ - p.from_) ≤ p.tickN n - (p.to_ - p.place) := Int.ediv_le_self _ (by omega)
     have w11 : IntKind.wrap .i64 ((p.tickN n - (p.to_ - p.place)) / (p.to_ - p.from_)) = (p.tickN n - (p.to_ - p.place)) / (p.to_ - p.from_) := wrap64 (by omega) (by omega)
     have w12 : IntKind.wrap .i64 (1 + (p.tickN n - (p.to_ - p.place)) / (p.to_ - p.from_)) = 1 + (p.tickN n - (p.to_ - p.place)) / (p.to_ - p.from_) := wrap64 (by omega) (by omega)
     rw [w9, w10, w11, w12]
     by_cases hx : 10000 < 1 + (p.tickN n - (p.to_ - p.place)) / (p.to_ - p.from_)
     ·rw [bif_pos (by exact decide_eq_true hx)]
      exact ng (.inl ⟨hL, hx⟩)
     ·have hf : ¬ p.far (p.tickN n) := by
        rintro (⟨_, h2⟩ | ⟨h2, _⟩)
        ·exact hx h2
        ·exact h2 hL
      rw [bif_neg (by exact decide_eq_false hx), if_neg hf]
      exact go hf
    ·by_cases hx : 2000000000000000 < p.place + p.tickN n
     ·have n1 := ng (.inr ⟨hL, hx⟩)
      by_cases c1 : 0 < p.to_
      ·rw [bif_pos (by exact decide_eq_true c1)]
       by_cases c2 : p.place < p.to_
       ·rw [bif_pos (by exact decide_eq_true c2), bif_neg (by exact decide_eq_false fun c3 => hL ⟨c1, c2, c3⟩), bif_pos (by exact decide_eq_true hx)]
        exact n1
       ·rw [bif_neg (by exact decide_eq_false c2), bif_pos (by exact decide_eq_true hx)]
        exact n1
      ·rw [bif_neg (by exact decide_eq_false c1), bif_pos (by exact decide_eq_true hx)]
       exact n1
     ·have hf : ¬ p.far (p.tickN n) := by
        rintro (⟨h2, _⟩ | ⟨_, h2⟩)
        ·exact hL h2
        ·exact hx h2
      rw [if_neg hf]
      have g1 := go hf
      by_cases c1 : 0 < p.to_
      ·rw [bif_pos (by exact decide_eq_true c1)]
       by_cases c2 : p.place < p.to_
       ·rw [bif_pos (by exact decide_eq_true c2), bif_neg (by exact decide_eq_false fun c3 => hL ⟨c1, c2, c3⟩), bif_neg (by exact decide_eq_false hx)]
        exact g1
       ·rw [bif_neg (by exact decide_eq_false c2), bif_neg (by exact decide_eq_false hx)]
        exact g1
      ·rw [bif_neg (by exact decide_eq_false c1), bif_neg (by exact decide_eq_false hx)]
       exact g1
   ·rw [bif_pos (by simp [hon]), if_neg hon]
    exact ⟨_, .inr ⟨rfl, rfl⟩, rfl⟩
  ·rw [bif_pos (by simp [h1]), if_neg (fun h => h1 h.2)]
   exact ⟨_, .inr ⟨rfl, rfl⟩, rfl⟩
 ·rw [bif_neg (by exact decide_eq_false h0), if_neg (fun h => h0 h.1)]
  exact ⟨_, .inr ⟨rfl, rfl⟩, rfl⟩
end
end Vm.S14
open Go Go.Proofs
namespace Vm.S14
noncomputable def pokB (p : PS) : Bool := @decide (POk p) (Classical.propDecidable _)
theorem pokB_to {p : PS} (h : pokB p = true) : POk p := @of_decide_eq_true _ (Classical.propDecidable _) h
theorem pokB_eq {p : PS} (h : POk p) : pokB p = true := @decide_eq_true _ (Classical.propDecidable _) h
noncomputable def f15e : Entry Tryd.prog gls where
 f := 15
 g := fun args os => match args with
   | [.ref 0 0 0 0, .int .i64 n] => match rdPS os with
     | some p => some (pokB p, .tuple [.sl rSig (p.tick n).1.1, .int .i64 (p.tick n).1.2], (p.tick n).2.obs)
     | none => none
   | _ => none
 says := by
  intro args os c v os' h hc
  split at h
  ·split at h
   ·rename_i n q p hp
    cases h
    rw [rdPS_obs hp]
    obtain ⟨v, hv, hN⟩ := f15_run (fun v os => some (v, os)) p n (pokB_to hc)
    have := ps_contract (ready29 8) (glE29 8) (fn := (fb Tryd.f15).1) (c := (fb Tryd.f15).2) Tryd.func15 (by kernel_rfl) (by kernel_rfl) (by decide) (rfOk_no (by kernel_rfl)) hN (show 1 ≤ 4 by decide)
    rcases hv with e | ⟨e1, e2⟩
    ·rw [e] at this; exact this
    ·rw [e2] at this
     exact ContractM.val this (fun _ _ _ _ => tl_rep e1) rfl
   ·cases h
  ·cases h
noncomputable def f19e : Entry Tryd.prog gls where
 f := 19
 ob := true
 g := fun args os => match args with
   | [.ref 0 0 0 0] => match rdPS os with
     | some p => some (ckK (keysUp p.cnt) && decide (p.cnt.length < 256), .sl rK2 (keysL p.cnt), p.obs)
     | none => none
   | [.nilp] => match os with
     | [] => some (true, .nilsl, [])
     | _ => none
   | _ => none
 says := by
  intro args os c v os' h hc
  split at h
  ·split at h
   ·rename_i p hp
    cases h
    rw [rdPS_obs hp]
    have hN : vrun (E29 8) f19Fcuts 4 100000 (vend (E29 8) 4 (fb Tryd.f19).1.results.toList false fun v os => some (v, os)) 1 [.code (fb Tryd.f19).2] (start [.ref 0 0 0 0] p.obs) = some (.sl rK2 (keysL p.cnt), p.obs) := by
     rw [vrun_succ, f19F_go, bif_pos (by exact hc)]
    exact ⟨ps_contract (ready29 8) (glE29 8) (fn := (fb Tryd.f19).1) (c := (fb Tryd.f19).2) Tryd.func19 (by kernel_rfl) (by kernel_rfl) (by decide) (rfOk_no (by kernel_rfl)) hN (show 4 ≤ 4 by decide), rfl⟩
   ·cases h
  ·split at h
   ·cases h
    have hN : vrun (E29 8) f19Ncuts 0 100000 (vend (E29 8) 0 (fb Tryd.f19).1.results.toList false fun v os => some (v, os)) 1 [.code (fb Tryd.f19).2] (start [.nilp] []) = some (.nilsl, []) := by
     rw [vrun_succ, f19N_go]
    exact ⟨ps_contract (ready29 8) (glE29 8) (fn := (fb Tryd.f19).1) (c := (fb Tryd.f19).2) Tryd.func19 (by kernel_rfl) (by kernel_rfl) (by decide) (rfOk_no (by kernel_rfl)) hN (show 0 ≤ 0 by decide), rfl⟩
   ·cases h
  ·cases h
theorem f12_run {R : Type} (kk : V → List Ob → Option R) (l : List Nt) :
  vrun (E29 8) f12cuts 0 100000 (k12 kk) 1 [.code (fb Tryd.f12).2] (start [.sl rNote l] []) = kk (.sl rNote (l.take 30)) [] := by
 rw [vrun_succ, f12_go]
 by_cases h : (30 : Int) < (l.length : Int)
 ·rw [if_pos h, bif_pos (by exact decide_eq_true (by omega))]
  rfl
 ·rw [if_neg h, bif_pos (by exact decide_eq_true (by omega))]
  have e1 : List.take ((l.length : Int).toNat - Int.toNat 0) (List.drop (Int.toNat 0) l) = l.take 30 := by
   show List.take ((l.length : Int).toNat - 0) (List.drop 0 l) = _
   rw [List.drop_zero, List.take_of_length_le (by omega), List.take_of_length_le (by omega)]
  exact congrArg (fun z => kk (.sl rNote z) []) e1
noncomputable def f12e : Entry Tryd.prog gls := .one 12 false srNote (by intro h; cases h <;> rfl) (fun (x : List Nt) => (true, .sl rNote (x.take 30))) fun x h => by
 have hN := f12_run (fun v os => some (v, os)) x
 exact contract_run (fn := (fb Tryd.f12).1) (c := (fb Tryd.f12).2) mixed (ready29 8) (glE29 8) Tryd.func12 (by kernel_rfl) rfl rfl (by kernel_rfl) hN
theorem f13_run {R : Type} (kk : V → List Ob → Option R) (l : List Nt) (hl : l.length ≤ 100) :
  vrun (E29 8) f13acuts 0 100000 (k13 kk) 1 [.code (fb Tryd.f13).2] (start [.sl rNote l] []) =
   bif !l.all Nt.right then kk (.tuple [.nilp, .int .i64 140]) [] else kk (.tuple [.ref 0 0 0 0, .int .i64 0]) (PS.new l).obs := by
 cases l with
 | nil =>
   rw [vrun_succ]
   refine (f13a_go _ kk).trans ?_
   have e : stabN [] = [] := List.eq_nil_of_length_eq_zero (by rw [stabN_len]; rfl)
   show _ = kk _ (PS.new []).obs
   unfold PS.new
   rw [e]
   rfl
 | cons x q =>
   rw [vrun_succ]
   refine (f13b_go _ kk x q).trans ?_
   rw [bif_neg (by exact decide_eq_false (by omega)), bif_pos (by exact decide_eq_true (by omega))]
   have hb := badAt_neg (x :: q) 0 (by omega)
   cases hr : (x :: q).all Nt.right with
   | false =>
     rw [bif_pos (by exact decide_eq_true (by rw [hr] at hb; have := mt hb.1 (by simp); omega))]
     rfl
   | true =>
     rw [bif_neg (by exact decide_eq_false (by have := hb.2 hr; omega))]
     rw [bif_pos (by exact decide_eq_true (by omega))]
     have e1 : (List.replicate 0 (Int.ofNat 0, Int.ofNat 0, Int.ofNat 0, Int.ofNat 0, Int.ofNat 0, Int.ofNat 0, Int.ofNat 0, Int.ofNat 0, Int.ofNat 0, Int.ofNat 0) ++ List.take (((x :: q).length : Int).toNat - Int.toNat 0) (List.drop (Int.toNat 0) (x :: q)) : List Nt) = x :: q := by
      show List.take (((x :: q).length : Int).toNat - 0) (List.drop 0 (x :: q)) = _
      rw [List.drop_zero, List.take_of_length_le (by omega)]
     rw [e1]
     have e2 : (List.take (((x :: q).length : Int).toNat - Int.toNat 0) (List.drop (Int.toNat 0) (x :: q))).length = (x :: q).length := by
      show (List.take (((x :: q).length : Int).toNat - 0) (List.drop 0 (x :: q))).length = _
      rw [List.drop_zero, List.take_of_length_le (by omega)]
     rw [e2]
     rw [bif_pos (by exact decide_eq_true (by unfold bytesMost; rw [List.length_replicate]; omega))]
     rw [bif_pos (by exact decide_eq_true ⟨rfl, by omega⟩)]
     have hbm : ((bytesMost : Nat) : Int) = 140737488355328 := rfl
     rw [bif_pos (by exact decide_eq_true ⟨by omega, by omega, (by rw [hbm]; show ((x :: q).length : Int) * 1 ≤ _; omega), (by rw [hbm]; omega), rfl, by decide⟩)]
     rw [Int.toNat_natCast]
     rfl
noncomputable def f13e : Entry Tryd.prog gls where
 f := 13
 g := fun _ _ => none
 br := fun args os => match args, os with
  | [x], [] => match rd false srNote x with
    | some l => some (decide (l.length ≤ 100), !l.all Nt.right, (.tuple [.nilp, .int .i64 140], []), (.tuple [.ref 0 0 0 0, .int .i64 0], (PS.new l).obs))
    | none => none
  | _, _ => none
 says := by intro _ _ _ _ _ h; cases h
 brSays := by
  intro args os c b p q h hc
  split at h
  ·split at h
   ·rename_i x l hx
    cases h
    have hN := f13_run (fun v os => some (v, os)) l (of_decide_eq_true hc)
    have key : ∀ (b : Bool) (A B : V × List Ob) (z : Option (V × List Ob)), z = (bif !b then some A else some B) → z = some (bif !b then A else B) := fun b A B z hz => by cases b <;> exact hz
    exact rd_args hx rfl rfl (contract_run (fn := (fb Tryd.f13).1) (c := (fb Tryd.f13).2) mixed (ready29 8) (glE29 8) Tryd.func13 (by kernel_rfl) rfl rfl (by kernel_rfl) (key _ _ _ _ hN))
   ·cases h
  ·cases h
noncomputable def es30 : List (Entry Tryd.prog gls) := [f15e, f19e, f12e, f13e] ++ es29
noncomputable def E30 (n : Nat) : Env := interp fns (look tys) gls mvs (tabOf es30) 100000 n
theorem ready30 (n : Nat) : Ready Tryd.prog (E30 n) := ready_of mixed fnsAll tysOk rfsOk n
theorem glE30 (n : Nat) : (E30 n).gl = gls := by cases n <;> rfl
end Vm.S14
open Go Go.Proofs Go.IntKind
namespace Vm.S14
variable {R : Type} (J : List Item → St → Option R) (kk : V → List Ob → Option R)
noncomputable abbrev f24cuts : Cuts := fun _ => none
noncomputable abbrev k24 {Q : Type} (k : V → List Ob → Option Q) := vend (E30 8) 1 (fb Tryd.f24).1.results.toList false k
theorem f24_go (p : PS) (k a b : Int) :
 vseg (E30 8) f24cuts 1 J (k24 kk) 100000 true [.code (fb Tryd.f24).2] (start ([V.ref (0 : Nat) (0 : Nat) (0 : Nat) (0 : Nat), V.agg [V.int i64 k, V.int i64 a, V.int i64 b]]) ([Ob.var [V.int i64 p.place, V.int i64 p.left, V.int i64 p.num, V.int i64 p.den, V.int i64 p.from_, V.int i64 p.to_, V.own (1 : Nat), V.own (2 : Nat), V.map (3 : Nat), V.bool p.on], Ob.arr rNote p.notes false, Ob.arr rB p.down false, Ob.map rK2 true rI false p.cnt])) =
 (bif decide (k = 0) then
 kk (V.tuple [V.nilsl, V.int i64 (0 : Int)]) ([Ob.var [V.int i64 p.place, V.int i64 p.left, V.int i64 p.num, V.int i64 p.den, V.int i64 p.from_, V.int i64 p.to_, V.own 1, V.own 2, V.map 3, V.bool true], Ob.arr rNote p.notes false, Ob.arr rB p.down false, Ob.map rK2 true rI false p.cnt])
 else (bif decide (k = 1) then
 (bif ckK (keysUp p.cnt) && decide (List.length p.cnt < 256) then
 kk (V.tuple [V.sl rSig (upsAt p.place (keysL p.cnt)), V.int i64 (0 : Int)]) ([Ob.var [V.int i64 p.place, V.int i64 p.left, V.int i64 p.num, V.int i64 p.den, V.int i64 p.from_, V.int i64 p.to_, V.own 1, V.own 2, V.map 3, V.bool false], Ob.arr rNote p.notes false, Ob.arr rB (List.replicate p.down.length false) false, Ob.map rK2 true rI false []])
 else none)
 else (bif decide (k = 2) then
 (bif decide ((0 : Int) ≤ a) then
 (bif !decide (a ≤ 1000000000000000) then
 kk (V.tuple [V.nilsl, V.int i64 (141 : Int)]) ([Ob.var [V.int i64 p.place, V.int i64 p.left, V.int i64 p.num, V.int i64 p.den, V.int i64 p.from_, V.int i64 p.to_, V.own 1, V.own 2, V.map 3, V.bool p.on], Ob.arr rNote p.notes false, Ob.arr rB p.down false, Ob.map rK2 true rI false p.cnt])
 else (bif ckK (keysUp p.cnt) && decide (List.length p.cnt < 256) then
 kk (V.tuple [V.sl rSig (upsAt p.place (keysL p.cnt)), V.int i64 (0 : Int)]) ([Ob.var [V.int i64 a, V.int i64 (0 : Int), V.int i64 p.num, V.int i64 p.den, V.int i64 p.from_, V.int i64 p.to_, V.own 1, V.own 2, V.map 3, V.bool p.on], Ob.arr rNote p.notes false, Ob.arr rB (List.replicate p.down.length false) false, Ob.map rK2 true rI false []])
 else none))
 else kk (V.tuple [V.nilsl, V.int i64 (141 : Int)]) ([Ob.var [V.int i64 p.place, V.int i64 p.left, V.int i64 p.num, V.int i64 p.den, V.int i64 p.from_, V.int i64 p.to_, V.own 1, V.own 2, V.map 3, V.bool p.on], Ob.arr rNote p.notes false, Ob.arr rB p.down false, Ob.map rK2 true rI false p.cnt]))
 else (bif decide (k = 3) then
 (bif decide ((1 : Int) ≤ a) then
 (bif !decide (a ≤ 100) then
 kk (V.tuple [V.nilsl, V.int i64 (142 : Int)]) ([Ob.var [V.int i64 p.place, V.int i64 p.left, V.int i64 p.num, V.int i64 p.den, V.int i64 p.from_, V.int i64 p.to_, V.own 1, V.own 2, V.map 3, V.bool p.on], Ob.arr rNote p.notes false, Ob.arr rB p.down false, Ob.map rK2 true rI false p.cnt])
 else (bif decide ((1 : Int) ≤ b) then
 (bif !decide (b ≤ 100) then
 kk (V.tuple [V.nilsl, V.int i64 (142 : Int)]) ([Ob.var [V.int i64 p.place, V.int i64 p.left, V.int i64 p.num, V.int i64 p.den, V.int i64 p.from_, V.int i64 p.to_, V.own 1, V.own 2, V.map 3, V.bool p.on], Ob.arr rNote p.notes false, Ob.arr rB p.down false, Ob.map rK2 true rI false p.cnt])
 else kk (V.tuple [V.nilsl, V.int i64 (0 : Int)]) ([Ob.var [V.int i64 p.place, V.int i64 (0 : Int), V.int i64 a, V.int i64 b, V.int i64 p.from_, V.int i64 p.to_, V.own 1, V.own 2, V.map 3, V.bool p.on], Ob.arr rNote p.notes false, Ob.arr rB p.down false, Ob.map rK2 true rI false p.cnt]))
 else kk (V.tuple [V.nilsl, V.int i64 (142 : Int)]) ([Ob.var [V.int i64 p.place, V.int i64 p.left, V.int i64 p.num, V.int i64 p.den, V.int i64 p.from_, V.int i64 p.to_, V.own 1, V.own 2, V.map 3, V.bool p.on], Ob.arr rNote p.notes false, Ob.arr rB p.down false, Ob.map rK2 true rI false p.cnt])))
 else kk (V.tuple [V.nilsl, V.int i64 (142 : Int)]) ([Ob.var [V.int i64 p.place, V.int i64 p.left, V.int i64 p.num, V.int i64 p.den, V.int i64 p.from_, V.int i64 p.to_, V.own 1, V.own 2, V.map 3, V.bool p.on], Ob.arr rNote p.notes false, Ob.arr rB p.down false, Ob.map rK2 true rI false p.cnt]))
 else (bif decide (k = 4) then
 (bif decide (a = 0) then
 (bif decide (b = 0) then
 kk (V.tuple [V.nilsl, V.int i64 (0 : Int)]) ([Ob.var [V.int i64 p.place, V.int i64 p.left, V.int i64 p.num, V.int i64 p.den, V.int i64 a, V.int i64 b, V.own 1, V.own 2, V.map 3, V.bool p.on], Ob.arr rNote p.notes false, Ob.arr rB p.down false, Ob.map rK2 true rI false p.cnt])
 else (bif decide (a < 0) then
 kk (V.tuple [V.nilsl, V.int i64 (141 : Int)]) ([Ob.var [V.int i64 p.place, V.int i64 p.left, V.int i64 p.num, V.int i64 p.den, V.int i64 p.from_, V.int i64 p.to_, V.own 1, V.own 2, V.map 3, V.bool p.on], Ob.arr rNote p.notes false, Ob.arr rB p.down false, Ob.map rK2 true rI false p.cnt])
 else (bif decide (b ≤ a) then
 kk (V.tuple [V.nilsl, V.int i64 (141 : Int)]) ([Ob.var [V.int i64 p.place, V.int i64 p.left, V.int i64 p.num, V.int i64 p.den, V.int i64 p.from_, V.int i64 p.to_, V.own 1, V.own 2, V.map 3, V.bool p.on], Ob.arr rNote p.notes false, Ob.arr rB p.down false, Ob.map rK2 true rI false p.cnt])
 else (bif decide ((1000000000000000 : Int) < b) then
 kk (V.tuple [V.nilsl, V.int i64 (141 : Int)]) ([Ob.var [V.int i64 p.place, V.int i64 p.left, V.int i64 p.num, V.int i64 p.den, V.int i64 p.from_, V.int i64 p.to_, V.own 1, V.own 2, V.map 3, V.bool p.on], Ob.arr rNote p.notes false, Ob.arr rB p.down false, Ob.map rK2 true rI false p.cnt])
 else kk (V.tuple [V.nilsl, V.int i64 (0 : Int)]) ([Ob.var [V.int i64 p.place, V.int i64 p.left, V.int i64 p.num, V.int i64 p.den, V.int i64 a, V.int i64 b, V.own 1, V.own 2, V.map 3, V.bool p.on], Ob.arr rNote p.notes false, Ob.arr rB p.down false, Ob.map rK2 true rI false p.cnt])))))
 else (bif decide (a < 0) then
 kk (V.tuple [V.nilsl, V.int i64 (141 : Int)]) ([Ob.var [V.int i64 p.place, V.int i64 p.left, V.int i64 p.num, V.int i64 p.den, V.int i64 p.from_, V.int i64 p.to_, V.own 1, V.own 2, V.map 3, V.bool p.on], Ob.arr rNote p.notes false, Ob.arr rB p.down false, Ob.map rK2 true rI false p.cnt])
 else (bif decide (b ≤ a) then
 kk (V.tuple [V.nilsl, V.int i64 (141 : Int)]) ([Ob.var [V.int i64 p.place, V.int i64 p.left, V.int i64 p.num, V.int i64 p.den, V.int i64 p.from_, V.int i64 p.to_, V.own 1, V.own 2, V.map 3, V.bool p.on], Ob.arr rNote p.notes false, Ob.arr rB p.down false, Ob.map rK2 true rI false p.cnt])
 else (bif decide ((1000000000000000 : Int) < b) then
 kk (V.tuple [V.nilsl, V.int i64 (141 : Int)]) ([Ob.var [V.int i64 p.place, V.int i64 p.left, V.int i64 p.num, V.int i64 p.den, V.int i64 p.from_, V.int i64 p.to_, V.own 1, V.own 2, V.map 3, V.bool p.on], Ob.arr rNote p.notes false, Ob.arr rB p.down false, Ob.map rK2 true rI false p.cnt])
 else kk (V.tuple [V.nilsl, V.int i64 (0 : Int)]) ([Ob.var [V.int i64 p.place, V.int i64 p.left, V.int i64 p.num, V.int i64 p.den, V.int i64 a, V.int i64 b, V.own 1, V.own 2, V.map 3, V.bool p.on], Ob.arr rNote p.notes false, Ob.arr rB p.down false, Ob.map rK2 true rI false p.cnt])))))
 else (bif pokB p then
 kk (V.tuple [V.sl rSig (p.tick a).fst.fst, V.int i64 (p.tick a).fst.snd]) ([Ob.var [V.int i64 (p.tick a).snd.place, V.int i64 (p.tick a).snd.left, V.int i64 (p.tick a).snd.num, V.int i64 (p.tick a).snd.den, V.int i64 (p.tick a).snd.from_, V.int i64 (p.tick a).snd.to_, V.own 1, V.own 2, V.map 3, V.bool (p.tick a).snd.on], Ob.arr rNote (p.tick a).snd.notes false, Ob.arr rB (p.tick a).snd.down false, Ob.map rK2 true rI false (p.tick a).snd.cnt])
 else none)))))) := by kernel_rfl
noncomputable abbrev f11cuts : Cuts := fun _ => none
noncomputable abbrev k11 {Q : Type} (k : V → List Ob → Option Q) := vend (E30 8) 0 (fb Tryd.f11).1.results.toList false k
theorem f11_go :
 vseg (E30 8) f11cuts 0 J (k11 kk) 100000 true [.code (fb Tryd.f11).2] (start ([]) ([])) =
 (bif pokB (PS.mk (PS.new [(Int.ofNat (0 : Nat), Int.ofNat (0 : Nat), (60 : Int), (80 : Int), (10 : Int), (20 : Int), Int.ofNat (0 : Nat), Int.ofNat (0 : Nat), Int.ofNat (0 : Nat), Int.ofNat (0 : Nat))]).place (PS.new [(Int.ofNat (0 : Nat), Int.ofNat (0 : Nat), (60 : Int), (80 : Int), (10 : Int), (20 : Int), Int.ofNat (0 : Nat), Int.ofNat (0 : Nat), Int.ofNat (0 : Nat), Int.ofNat (0 : Nat))]).left (PS.new [(Int.ofNat (0 : Nat), Int.ofNat (0 : Nat), (60 : Int), (80 : Int), (10 : Int), (20 : Int), Int.ofNat (0 : Nat), Int.ofNat (0 : Nat), Int.ofNat (0 : Nat), Int.ofNat (0 : Nat))]).num (PS.new [(Int.ofNat (0 : Nat), Int.ofNat (0 : Nat), (60 : Int), (80 : Int), (10 : Int), (20 : Int), Int.ofNat (0 : Nat), Int.ofNat (0 : Nat), Int.ofNat (0 : Nat), Int.ofNat (0 : Nat))]).den (PS.new [(Int.ofNat (0 : Nat), Int.ofNat (0 : Nat), (60 : Int), (80 : Int), (10 : Int), (20 : Int), Int.ofNat (0 : Nat), Int.ofNat (0 : Nat), Int.ofNat (0 : Nat), Int.ofNat (0 : Nat))]).from_ (PS.new [(Int.ofNat (0 : Nat), Int.ofNat (0 : Nat), (60 : Int), (80 : Int), (10 : Int), (20 : Int), Int.ofNat (0 : Nat), Int.ofNat (0 : Nat), Int.ofNat (0 : Nat), Int.ofNat (0 : Nat))]).to_ (PS.new [(Int.ofNat (0 : Nat), Int.ofNat (0 : Nat), (60 : Int), (80 : Int), (10 : Int), (20 : Int), Int.ofNat (0 : Nat), Int.ofNat (0 : Nat), Int.ofNat (0 : Nat), Int.ofNat (0 : Nat))]).notes (PS.new [(Int.ofNat (0 : Nat), Int.ofNat (0 : Nat), (60 : Int), (80 : Int), (10 : Int), (20 : Int), Int.ofNat (0 : Nat), Int.ofNat (0 : Nat), Int.ofNat (0 : Nat), Int.ofNat (0 : Nat))]).down (PS.new [(Int.ofNat (0 : Nat), Int.ofNat (0 : Nat), (60 : Int), (80 : Int), (10 : Int), (20 : Int), Int.ofNat (0 : Nat), Int.ofNat (0 : Nat), Int.ofNat (0 : Nat), Int.ofNat (0 : Nat))]).cnt true) then
 kk (V.bool true) ([])
 else none) := by kernel_rfl
end Vm.S14
open Go Go.Proofs
namespace Vm.S14
theorem pok_guard {p : PS} (h : POk p) : (ckK (keysUp p.cnt) && decide (p.cnt.length < 256)) = true := cnt_guard h.few h.right h.inv
section
variable {R : Type} (kk : V → List Ob → Option R)
theorem f24_run (p : PS) (c : Int × Int × Int) (h : POk p) : ∃ v, TlS v (p.done c).1 ∧
  vrun (E30 8) f24cuts 1 100000 (k24 kk) 1 [.code (fb Tryd.f24).2] (start [.ref 0 0 0 0, .agg [.int .i64 c.1, .int .i64 c.2.1, .int .i64 c.2.2]] p.obs) = kk v (PS.obs (p.done c).2) := by
 obtain ⟨k, a, b⟩ := c
 have nil : ∀ (t : Int) (q : PS) (z : Option R), z = kk (.tuple [.nilsl, .int .i64 t]) q.obs → ∃ v, TlS v ([], t) ∧ z = kk v q.obs := fun t q z e => ⟨_, .inr ⟨rfl, rfl⟩, e⟩
 rw [vrun_succ, f24_go]
 unfold PS.done
 dsimp only
 by_cases k0 : k = 0
 ·rw [bif_pos (by exact decide_eq_true k0), if_pos k0]
  exact nil _ _ _ rfl
 rw [bif_neg (by exact decide_eq_false k0), if_neg k0]
 by_cases k1 : k = 1
 ·rw [bif_pos (by exact decide_eq_true k1), if_pos k1, bif_pos (pok_guard h)]
  exact ⟨_, .inl rfl, rfl⟩
 rw [bif_neg (by exact decide_eq_false k1), if_neg k1]
 by_cases k2 : k = 2
 ·rw [bif_pos (by exact decide_eq_true k2), if_pos k2]
  unfold PS.seek
  by_cases a0 : 0 ≤ a
  ·rw [bif_pos (by exact decide_eq_true a0)]
   by_cases a1 : a ≤ 1000000000000000
   ·rw [bif_neg (by simp [a1]), if_pos ⟨a0, a1⟩, bif_pos (pok_guard h)]
    exact ⟨_, .inl rfl, rfl⟩
   ·rw [bif_pos (by simp [a1]), if_neg (fun h => a1 h.2)]
    exact nil _ _ _ rfl
  ·rw [bif_neg (by exact decide_eq_false a0), if_neg (fun h => a0 h.1)]
   exact nil _ _ _ rfl
 rw [bif_neg (by exact decide_eq_false k2), if_neg k2]
 by_cases k3 : k = 3
 ·rw [bif_pos (by exact decide_eq_true k3), if_pos k3]
  unfold PS.speed
  by_cases a0 : 1 ≤ a
  ·rw [bif_pos (by exact decide_eq_true a0)]
   by_cases a1 : a ≤ 100
   ·rw [bif_neg (by simp [a1])]
    by_cases b0 : 1 ≤ b
    ·rw [bif_pos (by exact decide_eq_true b0)]
     by_cases b1 : b ≤ 100
     ·rw [bif_neg (by simp [b1]), if_pos ⟨⟨a0, a1⟩, b0, b1⟩]
      exact nil _ _ _ rfl
     ·rw [bif_pos (by simp [b1]), if_neg (fun h => b1 h.2.2)]
      exact nil _ _ _ rfl
    ·rw [bif_neg (by exact decide_eq_false b0), if_neg (fun h => b0 h.2.1)]
     exact nil _ _ _ rfl
   ·rw [bif_pos (by simp [a1]), if_neg (fun h => a1 h.1.2)]
    exact nil _ _ _ rfl
  ·rw [bif_neg (by exact decide_eq_false a0), if_neg (fun h => a0 h.1.1)]
   exact nil _ _ _ rfl
 rw [bif_neg (by exact decide_eq_false k3), if_neg k3]
 by_cases k4 : k = 4
 ·rw [bif_pos (by exact decide_eq_true k4), if_pos k4]
  unfold PS.loop
  by_cases hz : a = 0 ∧ b = 0
  ·rw [bif_pos (by exact decide_eq_true hz.1), bif_pos (by exact decide_eq_true hz.2), if_pos (.inl hz)]
   exact nil _ _ _ rfl
  ·have rest : ∃ v, TlS v (([] : List Sg), (if a = 0 ∧ b = 0 ∨ 0 ≤ a ∧ a < b ∧ b ≤ 1000000000000000 then ((0 : Int), ({ p with from_ := a, to_ := b } : PS)) else (141, p)).1) ∧
       (bif decide (a < 0) then kk (.tuple [.nilsl, .int .i64 141]) p.obs else bif decide (b ≤ a) then kk (.tuple [.nilsl, .int .i64 141]) p.obs else bif decide (1000000000000000 < b) then kk (.tuple [.nilsl, .int .i64 141]) p.obs else kk (.tuple [.nilsl, .int .i64 0]) (PS.obs { p with from_ := a, to_ := b })) =
         kk v (PS.obs (if a = 0 ∧ b = 0 ∨ 0 ≤ a ∧ a < b ∧ b ≤ 1000000000000000 then ((0 : Int), ({ p with from_ := a, to_ := b } : PS)) else (141, p)).2) := by
     by_cases a0 : a < 0
     ·rw [bif_pos (by exact decide_eq_true a0), if_neg (by omega)]
      exact nil _ _ _ rfl
     ·rw [bif_neg (by exact decide_eq_false a0)]
      by_cases b0 : b ≤ a
      ·rw [bif_pos (by exact decide_eq_true b0), if_neg (by omega)]
       exact nil _ _ _ rfl
      ·rw [bif_neg (by exact decide_eq_false b0)]
       by_cases b1 : 1000000000000000 < b
       ·rw [bif_pos (by exact decide_eq_true b1), if_neg (by omega)]
        exact nil _ _ _ rfl
       ·rw [bif_neg (by exact decide_eq_false b1), if_pos (by omega)]
        exact nil _ _ _ rfl
   by_cases a0 : a = 0
   ·rw [bif_pos (by exact decide_eq_true a0), bif_neg (by exact decide_eq_false fun h => hz ⟨a0, h⟩)]
    exact rest
   ·rw [bif_neg (by exact decide_eq_false a0)]
    exact rest
 rw [bif_neg (by exact decide_eq_false k4), if_neg k4, bif_pos (pokB_eq h)]
 exact ⟨_, .inl rfl, rfl⟩
end
noncomputable def f24e : Entry Tryd.prog gls where
 f := 24
 g := fun args os => match args with
   | [.ref 0 0 0 0, .agg [.int .i64 k, .int .i64 a, .int .i64 b]] => match rdPS os with
     | some p => some (pokB p, .tuple [.sl rSig (p.done (k, a, b)).1.1, .int .i64 (p.done (k, a, b)).1.2], (p.done (k, a, b)).2.obs)
     | none => none
   | _ => none
 says := by
  intro args os c v os' h hc
  split at h
  ·split at h
   ·rename_i k a b q p hp
    cases h
    rw [rdPS_obs hp]
    obtain ⟨v, hv, hN⟩ := f24_run (fun v os => some (v, os)) p (k, a, b) (pokB_to hc)
    have := ps_contract (ready30 8) (glE30 8) (fn := (fb Tryd.f24).1) (c := (fb Tryd.f24).2) Tryd.func24 (by kernel_rfl) (by kernel_rfl) (by decide) (rfOk_no (by kernel_rfl)) hN (show 1 ≤ 4 by decide)
    rcases hv with e | ⟨e1, e2⟩
    ·rw [e] at this; exact this
    ·rw [e2] at this
     exact ContractM.val this (fun _ _ _ _ => tl_rep e1) rfl
   ·cases h
  ·cases h
theorem f11_run {R : Type} (kk : V → List Ob → Option R) : vrun (E30 8) f11cuts 0 100000 (k11 kk) 1 [.code (fb Tryd.f11).2] (start [] []) = kk (.bool true) [] := by
 rw [vrun_succ, f11_go, bif_pos]
 exact pokB_eq (POk.play (POk.new (l := [(0, 0, 60, 80, 10, 20, 0, 0, 0, 0)]) (by decide) (by decide)))
noncomputable def f11e : Entry Tryd.prog gls where
 f := 11
 g := fun args os => match args, os with
   | [], [] => some (true, .bool true, [])
   | _, _ => none
 says := by
  intro args os c v os' h hc
  split at h
  ·cases h
   exact contract_run (fn := (fb Tryd.f11).1) (c := (fb Tryd.f11).2) mixed (ready30 8) (glE30 8) Tryd.func11 (by kernel_rfl) rfl rfl (by kernel_rfl) (f11_run fun v os => some (v, os))
  ·cases h
noncomputable def es31 : List (Entry Tryd.prog gls) := [f24e, f11e] ++ es30
noncomputable def E31 (n : Nat) : Env := interp fns (look tys) gls mvs (tabOf es31) 100000 n
theorem ready31 (n : Nat) : Ready Tryd.prog (E31 n) := ready_of mixed fnsAll tysOk rfsOk n
theorem glE31 (n : Nat) : (E31 n).gl = gls := by cases n <;> rfl
end Vm.S14
open Go Go.Proofs Go.IntKind
namespace Vm.S14
variable {R : Type} (J : List Item → St → Option R) (kk : V → List Ob → Option R)
noncomputable abbrev f20cuts : Cuts := fun _ => none
noncomputable abbrev k20 {Q : Type} (k : V → List Ob → Option Q) := vend (E31 8) 1 (fb Tryd.f20).1.results.toList false k
theorem f20_go (p : PS) (a b : Int) :
 vseg (E31 8) f20cuts 1 J (k20 kk) 100000 true [.code (fb Tryd.f20).2] (start ([V.ref (0 : Nat) (0 : Nat) (0 : Nat) (0 : Nat), V.int i64 a, V.int i64 b]) ([Ob.var [V.int i64 p.place, V.int i64 p.left, V.int i64 p.num, V.int i64 p.den, V.int i64 p.from_, V.int i64 p.to_, V.own (1 : Nat), V.own (2 : Nat), V.map (3 : Nat), V.bool p.on], Ob.arr rNote p.notes false, Ob.arr rB p.down false, Ob.map rK2 true rI false p.cnt])) =
 (bif decide ((1 : Int) ≤ a) then
 (bif !decide (a ≤ 100) then
 kk (V.int i64 (142 : Int)) ([Ob.var [V.int i64 p.place, V.int i64 p.left, V.int i64 p.num, V.int i64 p.den, V.int i64 p.from_, V.int i64 p.to_, V.own 1, V.own 2, V.map 3, V.bool p.on], Ob.arr rNote p.notes false, Ob.arr rB p.down false, Ob.map rK2 true rI false p.cnt])
 else (bif decide ((1 : Int) ≤ b) then
 (bif !decide (b ≤ 100) then
 kk (V.int i64 (142 : Int)) ([Ob.var [V.int i64 p.place, V.int i64 p.left, V.int i64 p.num, V.int i64 p.den, V.int i64 p.from_, V.int i64 p.to_, V.own 1, V.own 2, V.map 3, V.bool p.on], Ob.arr rNote p.notes false, Ob.arr rB p.down false, Ob.map rK2 true rI false p.cnt])
 else kk (V.int i64 (0 : Int)) ([Ob.var [V.int i64 p.place, V.int i64 (0 : Int), V.int i64 a, V.int i64 b, V.int i64 p.from_, V.int i64 p.to_, V.own 1, V.own 2, V.map 3, V.bool p.on], Ob.arr rNote p.notes false, Ob.arr rB p.down false, Ob.map rK2 true rI false p.cnt]))
 else kk (V.int i64 (142 : Int)) ([Ob.var [V.int i64 p.place, V.int i64 p.left, V.int i64 p.num, V.int i64 p.den, V.int i64 p.from_, V.int i64 p.to_, V.own 1, V.own 2, V.map 3, V.bool p.on], Ob.arr rNote p.notes false, Ob.arr rB p.down false, Ob.map rK2 true rI false p.cnt])))
 else kk (V.int i64 (142 : Int)) ([Ob.var [V.int i64 p.place, V.int i64 p.left, V.int i64 p.num, V.int i64 p.den, V.int i64 p.from_, V.int i64 p.to_, V.own 1, V.own 2, V.map 3, V.bool p.on], Ob.arr rNote p.notes false, Ob.arr rB p.down false, Ob.map rK2 true rI false p.cnt])) := by kernel_rfl
noncomputable abbrev f21cuts : Cuts := fun _ => none
noncomputable abbrev k21 {Q : Type} (k : V → List Ob → Option Q) := vend (E31 8) 1 (fb Tryd.f21).1.results.toList false k
theorem f21_go (p : PS) (a b : Int) :
 vseg (E31 8) f21cuts 1 J (k21 kk) 100000 true [.code (fb Tryd.f21).2] (start ([V.ref (0 : Nat) (0 : Nat) (0 : Nat) (0 : Nat), V.int i64 a, V.int i64 b]) ([Ob.var [V.int i64 p.place, V.int i64 p.left, V.int i64 p.num, V.int i64 p.den, V.int i64 p.from_, V.int i64 p.to_, V.own (1 : Nat), V.own (2 : Nat), V.map (3 : Nat), V.bool p.on], Ob.arr rNote p.notes false, Ob.arr rB p.down false, Ob.map rK2 true rI false p.cnt])) =
 (bif decide (a = 0) then
 (bif decide (b = 0) then
 kk (V.int i64 (0 : Int)) ([Ob.var [V.int i64 p.place, V.int i64 p.left, V.int i64 p.num, V.int i64 p.den, V.int i64 a, V.int i64 b, V.own 1, V.own 2, V.map 3, V.bool p.on], Ob.arr rNote p.notes false, Ob.arr rB p.down false, Ob.map rK2 true rI false p.cnt])
 else (bif decide (a < 0) then
 kk (V.int i64 (141 : Int)) ([Ob.var [V.int i64 p.place, V.int i64 p.left, V.int i64 p.num, V.int i64 p.den, V.int i64 p.from_, V.int i64 p.to_, V.own 1, V.own 2, V.map 3, V.bool p.on], Ob.arr rNote p.notes false, Ob.arr rB p.down false, Ob.map rK2 true rI false p.cnt])
 else (bif decide (b ≤ a) then
 kk (V.int i64 (141 : Int)) ([Ob.var [V.int i64 p.place, V.int i64 p.left, V.int i64 p.num, V.int i64 p.den, V.int i64 p.from_, V.int i64 p.to_, V.own 1, V.own 2, V.map 3, V.bool p.on], Ob.arr rNote p.notes false, Ob.arr rB p.down false, Ob.map rK2 true rI false p.cnt])
 else (bif decide ((1000000000000000 : Int) < b) then
 kk (V.int i64 (141 : Int)) ([Ob.var [V.int i64 p.place, V.int i64 p.left, V.int i64 p.num, V.int i64 p.den, V.int i64 p.from_, V.int i64 p.to_, V.own 1, V.own 2, V.map 3, V.bool p.on], Ob.arr rNote p.notes false, Ob.arr rB p.down false, Ob.map rK2 true rI false p.cnt])
 else kk (V.int i64 (0 : Int)) ([Ob.var [V.int i64 p.place, V.int i64 p.left, V.int i64 p.num, V.int i64 p.den, V.int i64 a, V.int i64 b, V.own 1, V.own 2, V.map 3, V.bool p.on], Ob.arr rNote p.notes false, Ob.arr rB p.down false, Ob.map rK2 true rI false p.cnt])))))
 else (bif decide (a < 0) then
 kk (V.int i64 (141 : Int)) ([Ob.var [V.int i64 p.place, V.int i64 p.left, V.int i64 p.num, V.int i64 p.den, V.int i64 p.from_, V.int i64 p.to_, V.own 1, V.own 2, V.map 3, V.bool p.on], Ob.arr rNote p.notes false, Ob.arr rB p.down false, Ob.map rK2 true rI false p.cnt])
 else (bif decide (b ≤ a) then
 kk (V.int i64 (141 : Int)) ([Ob.var [V.int i64 p.place, V.int i64 p.left, V.int i64 p.num, V.int i64 p.den, V.int i64 p.from_, V.int i64 p.to_, V.own 1, V.own 2, V.map 3, V.bool p.on], Ob.arr rNote p.notes false, Ob.arr rB p.down false, Ob.map rK2 true rI false p.cnt])
 else (bif decide ((1000000000000000 : Int) < b) then
 kk (V.int i64 (141 : Int)) ([Ob.var [V.int i64 p.place, V.int i64 p.left, V.int i64 p.num, V.int i64 p.den, V.int i64 p.from_, V.int i64 p.to_, V.own 1, V.own 2, V.map 3, V.bool p.on], Ob.arr rNote p.notes false, Ob.arr rB p.down false, Ob.map rK2 true rI false p.cnt])
 else kk (V.int i64 (0 : Int)) ([Ob.var [V.int i64 p.place, V.int i64 p.left, V.int i64 p.num, V.int i64 p.den, V.int i64 a, V.int i64 b, V.own 1, V.own 2, V.map 3, V.bool p.on], Ob.arr rNote p.notes false, Ob.arr rB p.down false, Ob.map rK2 true rI false p.cnt]))))) := by kernel_rfl
noncomputable abbrev f22cuts : Cuts := fun _ => none
noncomputable abbrev k22 {Q : Type} (k : V → List Ob → Option Q) := vend (E31 8) 1 (fb Tryd.f22).1.results.toList false k
theorem f22_go (p : PS) (a : Int) :
 vseg (E31 8) f22cuts 1 J (k22 kk) 100000 true [.code (fb Tryd.f22).2] (start ([V.ref (0 : Nat) (0 : Nat) (0 : Nat) (0 : Nat), V.int i64 a]) ([Ob.var [V.int i64 p.place, V.int i64 p.left, V.int i64 p.num, V.int i64 p.den, V.int i64 p.from_, V.int i64 p.to_, V.own (1 : Nat), V.own (2 : Nat), V.map (3 : Nat), V.bool p.on], Ob.arr rNote p.notes false, Ob.arr rB p.down false, Ob.map rK2 true rI false p.cnt])) =
 (bif decide ((0 : Int) ≤ a) then
 (bif !decide (a ≤ 1000000000000000) then
 kk (V.tuple [V.nilsl, V.int i64 (141 : Int)]) ([Ob.var [V.int i64 p.place, V.int i64 p.left, V.int i64 p.num, V.int i64 p.den, V.int i64 p.from_, V.int i64 p.to_, V.own 1, V.own 2, V.map 3, V.bool p.on], Ob.arr rNote p.notes false, Ob.arr rB p.down false, Ob.map rK2 true rI false p.cnt])
 else (bif ckK (keysUp p.cnt) && decide (List.length p.cnt < 256) then
 kk (V.tuple [V.sl rSig (upsAt p.place (keysL p.cnt)), V.int i64 (0 : Int)]) ([Ob.var [V.int i64 a, V.int i64 (0 : Int), V.int i64 p.num, V.int i64 p.den, V.int i64 p.from_, V.int i64 p.to_, V.own 1, V.own 2, V.map 3, V.bool p.on], Ob.arr rNote p.notes false, Ob.arr rB (List.replicate p.down.length false) false, Ob.map rK2 true rI false []])
 else none))
 else kk (V.tuple [V.nilsl, V.int i64 (141 : Int)]) ([Ob.var [V.int i64 p.place, V.int i64 p.left, V.int i64 p.num, V.int i64 p.den, V.int i64 p.from_, V.int i64 p.to_, V.own 1, V.own 2, V.map 3, V.bool p.on], Ob.arr rNote p.notes false, Ob.arr rB p.down false, Ob.map rK2 true rI false p.cnt])) := by kernel_rfl
end Vm.S14
open Go Go.Proofs
namespace Vm.S14
section
variable {R : Type} (kk : V → List Ob → Option R)
theorem f20_run (p : PS) (a b : Int) : vrun (E31 8) f20cuts 1 100000 (k20 kk) 1 [.code (fb Tryd.f20).2] (start [.ref 0 0 0 0, .int .i64 a, .int .i64 b] p.obs) = kk (.int .i64 (p.speed a b).1) (PS.obs (p.speed a b).2) := by
 rw [vrun_succ, f20_go]
 unfold PS.speed
 by_cases a0 : 1 ≤ a
 ·rw [bif_pos (by exact decide_eq_true a0)]
  by_cases a1 : a ≤ 100
  ·rw [bif_neg (by simp [a1])]
   by_cases b0 : 1 ≤ b
   ·rw [bif_pos (by exact decide_eq_true b0)]
    by_cases b1 : b ≤ 100
    ·rw [bif_neg (by simp [b1]), if_pos ⟨⟨a0, a1⟩, b0, b1⟩]
    ·rw [bif_pos (by simp [b1]), if_neg (fun h => b1 h.2.2)]
   ·rw [bif_neg (by exact decide_eq_false b0), if_neg (fun h => b0 h.2.1)]
  ·rw [bif_pos (by simp [a1]), if_neg (fun h => a1 h.1.2)]
 ·rw [bif_neg (by exact decide_eq_false a0), if_neg (fun h => a0 h.1.1)]
theorem f21_run (p : PS) (a b : Int) : vrun (E31 8) f21cuts 1 100000 (k21 kk) 1 [.code (fb Tryd.f21).2] (start [.ref 0 0 0 0, .int .i64 a, .int .i64 b] p.obs) = kk (.int .i64 (p.loop a b).1) (PS.obs (p.loop a b).2) := by
 rw [vrun_succ, f21_go]
 unfold PS.loop
 by_cases hz : a = 0 ∧ b = 0
 ·rw [bif_pos (by exact decide_eq_true hz.1), bif_pos (by exact decide_eq_true hz.2), if_pos (.inl hz)]
 ·have rest : (bif decide (a < 0) then kk (.int .i64 141) p.obs else bif decide (b ≤ a) then kk (.int .i64 141) p.obs else bif decide (1000000000000000 < b) then kk (.int .i64 141) p.obs else kk (.int .i64 0) (PS.obs { p with from_ := a, to_ := b })) =
        kk (.int .i64 (if a = 0 ∧ b = 0 ∨ 0 ≤ a ∧ a < b ∧ b ≤ 1000000000000000 then ((0 : Int), ({ p with from_ := a, to_ := b } : PS)) else (141, p)).1) (PS.obs (if a = 0 ∧ b = 0 ∨ 0 ≤ a ∧ a < b ∧ b ≤ 1000000000000000 then ((0 : Int), ({ p with from_ := a, to_ := b } : PS)) else (141, p)).2) := by
    by_cases a0 : a < 0
    ·rw [bif_pos (by exact decide_eq_true a0), if_neg (by omega)]
    ·rw [bif_neg (by exact decide_eq_false a0)]
     by_cases b0 : b ≤ a
     ·rw [bif_pos (by exact decide_eq_true b0), if_neg (by omega)]
     ·rw [bif_neg (by exact decide_eq_false b0)]
      by_cases b1 : 1000000000000000 < b
      ·rw [bif_pos (by exact decide_eq_true b1), if_neg (by omega)]
      ·rw [bif_neg (by exact decide_eq_false b1), if_pos (by omega)]
  by_cases a0 : a = 0
  ·rw [bif_pos (by exact decide_eq_true a0), bif_neg (by exact decide_eq_false fun h => hz ⟨a0, h⟩)]
   exact rest
  ·rw [bif_neg (by exact decide_eq_false a0)]
   exact rest
theorem f22_run (p : PS) (a : Int) (h : POk p) : ∃ v, TlS v (p.seek a).1 ∧ vrun (E31 8) f22cuts 1 100000 (k22 kk) 1 [.code (fb Tryd.f22).2] (start [.ref 0 0 0 0, .int .i64 a] p.obs) = kk v (PS.obs (p.seek a).2) := by
 rw [vrun_succ, f22_go]
 unfold PS.seek
 by_cases a0 : 0 ≤ a
 ·rw [bif_pos (by exact decide_eq_true a0)]
  by_cases a1 : a ≤ 1000000000000000
  ·rw [bif_neg (by simp [a1]), if_pos ⟨a0, a1⟩, bif_pos (pok_guard h)]
   exact ⟨_, .inl rfl, rfl⟩
  ·rw [bif_pos (by simp [a1]), if_neg (fun h => a1 h.2)]
   exact ⟨_, .inr ⟨rfl, rfl⟩, rfl⟩
 ·rw [bif_neg (by exact decide_eq_false a0), if_neg (fun h => a0 h.1)]
  exact ⟨_, .inr ⟨rfl, rfl⟩, rfl⟩
end
noncomputable def f20e : Entry Tryd.prog gls where
 f := 20
 g := fun args os => match args with
   | [.ref 0 0 0 0, .int .i64 a, .int .i64 b] => match rdPS os with
     | some p => some (true, .int .i64 (p.speed a b).1, (p.speed a b).2.obs)
     | none => none
   | _ => none
 says := by
  intro args os c v os' h hc
  split at h
  ·split at h
   ·rename_i a b q p hp
    cases h
    rw [rdPS_obs hp]
    exact ps_contract (ready31 8) (glE31 8) (fn := (fb Tryd.f20).1) (c := (fb Tryd.f20).2) Tryd.func20 (by kernel_rfl) (by kernel_rfl) (by decide) (rfOk_no (by kernel_rfl)) (f20_run (fun v os => some (v, os)) p a b) (show 1 ≤ 4 by decide)
   ·cases h
  ·cases h
noncomputable def f21e : Entry Tryd.prog gls where
 f := 21
 g := fun args os => match args with
   | [.ref 0 0 0 0, .int .i64 a, .int .i64 b] => match rdPS os with
     | some p => some (true, .int .i64 (p.loop a b).1, (p.loop a b).2.obs)
     | none => none
   | _ => none
 says := by
  intro args os c v os' h hc
  split at h
  ·split at h
   ·rename_i a b q p hp
    cases h
    rw [rdPS_obs hp]
    exact ps_contract (ready31 8) (glE31 8) (fn := (fb Tryd.f21).1) (c := (fb Tryd.f21).2) Tryd.func21 (by kernel_rfl) (by kernel_rfl) (by decide) (rfOk_no (by kernel_rfl)) (f21_run (fun v os => some (v, os)) p a b) (show 1 ≤ 4 by decide)
   ·cases h
  ·cases h
noncomputable def f22e : Entry Tryd.prog gls where
 f := 22
 g := fun args os => match args with
   | [.ref 0 0 0 0, .int .i64 a] => match rdPS os with
     | some p => some (pokB p, .tuple [.sl rSig (p.seek a).1.1, .int .i64 (p.seek a).1.2], (p.seek a).2.obs)
     | none => none
   | _ => none
 says := by
  intro args os c v os' h hc
  split at h
  ·split at h
   ·rename_i a q p hp
    cases h
    rw [rdPS_obs hp]
    obtain ⟨v, hv, hN⟩ := f22_run (fun v os => some (v, os)) p a (pokB_to hc)
    have := ps_contract (ready31 8) (glE31 8) (fn := (fb Tryd.f22).1) (c := (fb Tryd.f22).2) Tryd.func22 (by kernel_rfl) (by kernel_rfl) (by decide) (rfOk_no (by kernel_rfl)) hN (show 1 ≤ 4 by decide)
    rcases hv with e | ⟨e1, e2⟩
    ·rw [e] at this; exact this
    ·rw [e2] at this
     exact ContractM.val this (fun _ _ _ _ => tl_rep e1) rfl
   ·cases h
  ·cases h
noncomputable def es32 : List (Entry Tryd.prog gls) := [f20e, f21e, f22e] ++ es31
noncomputable def E32 (n : Nat) : Env := interp fns (look tys) gls mvs (tabOf es32) 100000 n
theorem ready32 (n : Nat) : Ready Tryd.prog (E32 n) := ready_of mixed fnsAll tysOk rfsOk n
theorem glE32 (n : Nat) : (E32 n).gl = gls := by cases n <;> rfl
end Vm.S14
