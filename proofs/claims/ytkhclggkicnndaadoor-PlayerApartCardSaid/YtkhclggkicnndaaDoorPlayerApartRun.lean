/- The statement, as a run of the value machine. -/
import Derived.Test.YtkhclggkicnndaaDoorLawE
import Derived.Test.YtkhclggkicnndaaDoorVmE
import Derived.KernelRfl
import Derived.Test.YtkhclggkicnndaaDoorWords
import Derived.Test.YtkhclggkicnndaaDoorEnv
import Derived.Lay
import Derived.LaidHandle
import Derived.Handed
import Derived.LaidLaws
import Derived.Test.YtkhclggkicnndaaDoorRows
set_option maxRecDepth 100000
open Go Go.Proofs Go.IntKind
namespace Vm.S14
variable {R : Type} (J : List Item → St → Option R) (kk : V → List Ob → Option R)
noncomputable abbrev f10cuts : Cuts := look [(6, [0, 1, 2, 7, 8, 9]), (15, [1, 2, 7, 10, 12, 14]), (21, [1, 2, 7, 10, 12, 14, 15, 16, 17, 18, 19, 20])]
noncomputable abbrev f10t21 : List Item := itemsAt (fb Tryd.f10).2 21
noncomputable abbrev f10t15 : List Item := itemsAt (fb Tryd.f10).2 15
noncomputable abbrev f10t6 : List Item := itemsAt (fb Tryd.f10).2 6
def f10s0 (l : List Nt) (cs : List Pt) (ch n1 : Int) : St := St.mk [(0, V.sl rNote (List.take (30 : Nat) l)), (1, V.sl rCall (callsOk cs)), (2, V.int i64 ch), (7, V.bool true), (8, V.nilsl), (9, V.int i64 n1)] [] 0
def f10s1 (l : List Nt) (cs : List Pt) (ch n4 : Int) (l5 : List Nt) : St := St.mk [(0, V.sl rNote (List.take (30 : Nat) l)), (1, V.sl rCall (callsOk cs)), (2, V.int i64 ch), (7, V.bool true), (8, V.own 0), (9, V.int i64 n4)] [(0, Ob.arr rNote l5 false)] 1
def f10s2 (cs : List Pt) (ch n6 n7 n8 n9 n10 n11 n12 : Int) (b13 : Bool) (n14 n15 n16 n17 n18 n19 : Int) (b20 : Bool) (l21 : List Nt) (l22 : List Bool) (e23 : Cn) (l24 : List Nt) (l25 : List Bool) (e26 : Cn) : St := St.mk [(1, V.sl rCall (callsOk cs)), (2, V.int i64 ch), (7, V.bool true), (10, V.ref 0 0 0 0), (12, V.ref 1 0 0 0), (14, V.int i64 n6)] [(0, Ob.var [V.int i64 n7, V.int i64 n8, V.int i64 n9, V.int i64 n10, V.int i64 n11, V.int i64 n12, V.own 2, V.own 3, V.map 4, V.bool b13]), (1, Ob.var [V.int i64 n14, V.int i64 n15, V.int i64 n16, V.int i64 n17, V.int i64 n18, V.int i64 n19, V.own 5, V.own 6, V.map 7, V.bool b20]), (2, Ob.arr rNote l21 false), (3, Ob.arr rB l22 false), (4, Ob.map rK2 true rI false e23), (5, Ob.arr rNote l24 false), (6, Ob.arr rB l25 false), (7, Ob.map rK2 true rI false e26)] 8
def f10s3 (cs : List Pt) (ch n6 n7 n8 n9 n10 n11 n12 : Int) (l21 : List Nt) (l22 : List Bool) (e23 : Cn) (b13 : Bool) (y29 : Int × Int × Int) (n14 n15 n16 n17 n18 n19 : Int) (l24 : List Nt) (l25 : List Bool) (e26 : Cn) (b20 : Bool) (y30 : Int × Int × Int) (n31 n32 n33 n34 n35 n36 n37 : Int) (b38 : Bool) (n39 n40 n41 n42 n43 n44 : Int) (b45 : Bool) (l46 : List Nt) (l47 : List Bool) (e48 : Cn) (l49 : List Nt) (l50 : List Bool) (e51 : Cn) : St := St.mk [(1, V.sl rCall (callsOk cs)), (2, V.int i64 ch), (7, V.bool true), (10, V.ref 0 0 0 0), (12, V.ref 1 0 0 0), (14, V.int i64 n6), (15, V.sl rSig ((PS.mk n7 n8 n9 n10 n11 n12 l21 l22 e23 b13).done y29).fst.fst), (16, V.int i64 ((PS.mk n7 n8 n9 n10 n11 n12 l21 l22 e23 b13).done y29).fst.snd), (17, V.sl rSig ((PS.mk n14 n15 n16 n17 n18 n19 l24 l25 e26 b20).done y30).fst.fst), (18, V.int i64 ((PS.mk n14 n15 n16 n17 n18 n19 l24 l25 e26 b20).done y30).fst.snd), (19, V.nilsl), (20, V.int i64 n31)] [(0, Ob.var [V.int i64 n32, V.int i64 n33, V.int i64 n34, V.int i64 n35, V.int i64 n36, V.int i64 n37, V.own 2, V.own 3, V.map 4, V.bool b38]), (1, Ob.var [V.int i64 n39, V.int i64 n40, V.int i64 n41, V.int i64 n42, V.int i64 n43, V.int i64 n44, V.own 5, V.own 6, V.map 7, V.bool b45]), (2, Ob.arr rNote l46 false), (3, Ob.arr rB l47 false), (4, Ob.map rK2 true rI false e48), (5, Ob.arr rNote l49 false), (6, Ob.arr rB l50 false), (7, Ob.map rK2 true rI false e51)] 8
def f10s4 (cs : List Pt) (ch n6 n7 n8 n9 n10 n11 n12 : Int) (l21 : List Nt) (l22 : List Bool) (e23 : Cn) (b13 : Bool) (y29 : Int × Int × Int) (n14 n15 n16 n17 n18 n19 : Int) (l24 : List Nt) (l25 : List Bool) (e26 : Cn) (b20 : Bool) (y30 : Int × Int × Int) (n54 n55 n56 n57 n58 n59 n60 : Int) (b61 : Bool) (n62 n63 n64 n65 n66 n67 : Int) (b68 : Bool) (l69 : List Sg) (l70 : List Nt) (l71 : List Bool) (e72 : Cn) (l73 : List Nt) (l74 : List Bool) (e75 : Cn) : St := St.mk [(1, V.sl rCall (callsOk cs)), (2, V.int i64 ch), (7, V.bool true), (10, V.ref 0 0 0 0), (12, V.ref 1 0 0 0), (14, V.int i64 n6), (15, V.sl rSig ((PS.mk n7 n8 n9 n10 n11 n12 l21 l22 e23 b13).done y29).fst.fst), (16, V.int i64 ((PS.mk n7 n8 n9 n10 n11 n12 l21 l22 e23 b13).done y29).fst.snd), (17, V.sl rSig ((PS.mk n14 n15 n16 n17 n18 n19 l24 l25 e26 b20).done y30).fst.fst), (18, V.int i64 ((PS.mk n14 n15 n16 n17 n18 n19 l24 l25 e26 b20).done y30).fst.snd), (19, V.own 2), (20, V.int i64 n54)] [(0, Ob.var [V.int i64 n55, V.int i64 n56, V.int i64 n57, V.int i64 n58, V.int i64 n59, V.int i64 n60, V.own 3, V.own 4, V.map 5, V.bool b61]), (1, Ob.var [V.int i64 n62, V.int i64 n63, V.int i64 n64, V.int i64 n65, V.int i64 n66, V.int i64 n67, V.own 6, V.own 7, V.map 8, V.bool b68]), (2, Ob.arr rSig l69 false), (3, Ob.arr rNote l70 false), (4, Ob.arr rB l71 false), (5, Ob.map rK2 true rI false e72), (6, Ob.arr rNote l73 false), (7, Ob.arr rB l74 false), (8, Ob.map rK2 true rI false e75)] 9
noncomputable abbrev k10 {Q : Type} (k : V → List Ob → Option Q) := vend (E32 8) 0 (fb Tryd.f10).1.results.toList false k
theorem f10_go (l : List Nt) (cs : List Pt) (ch : Int) :
 vseg (E32 8) f10cuts 0 J (k10 kk) 100000 true [.code (fb Tryd.f10).2] (start ([V.sl rNote l, V.sl rCall cs, V.int i64 ch]) ([])) =
 J f10t6 (f10s0 l (cs) (ch) (0 : Int)) := by kernel_rfl
theorem f10_0 (l : List Nt) (cs : List Pt) (ch n1 : Int) :
 vseg (E32 8) f10cuts 0 J (k10 kk) 100000 true f10t6 (f10s0 l cs ch n1) =
 (bif decide (n1 < (↑(List.take (30 : Nat) l).length : Int)) then
 (match idx (List.take (30 : Nat) l) n1 with
 | some y2 => (bif decide (y2.snd.fst = ch) then
 (match idx (List.take (30 : Nat) l) n1 with
 | some y3 => J f10t6 (f10s1 l (cs) (ch) (i64.wrap (n1 + 1)) ([y3]))
 | none => none)
 else J f10t6 (f10s0 l (cs) (ch) (i64.wrap (n1 + 1))))
 | none => none)
 else (bif decide ((List.take (30 : Nat) l).length ≤ 100) then
 (bif !(List.take (30 : Nat) l).all Nt.right then
 kk (V.bool true) ([])
 else J f10t15 (f10s2 (cs) (ch) (0 : Int) ((PS.new (List.take (30 : Nat) l)).place) ((PS.new (List.take (30 : Nat) l)).left) ((PS.new (List.take (30 : Nat) l)).num) ((PS.new (List.take (30 : Nat) l)).den) ((PS.new (List.take (30 : Nat) l)).from_) ((PS.new (List.take (30 : Nat) l)).to_) (false) (0 : Int) (0 : Int) (1 : Int) (1 : Int) (0 : Int) (0 : Int) (false) ((PS.new (List.take (30 : Nat) l)).notes) ((PS.new (List.take (30 : Nat) l)).down) ((PS.new (List.take (30 : Nat) l)).cnt) ([]) ([]) ([])))
 else none)) := by kernel_rfl
theorem f10_1 (l : List Nt) (cs : List Pt) (ch n4 : Int) (l5 : List Nt) :
 vseg (E32 8) f10cuts 0 J (k10 kk) 100000 true f10t6 (f10s1 l cs ch n4 l5) =
 (bif decide (n4 < (↑(List.take (30 : Nat) l).length : Int)) then
 (match idx (List.take (30 : Nat) l) n4 with
 | some y27 => (bif decide (y27.snd.fst = ch) then
 (match idx (List.take (30 : Nat) l) n4 with
 | some y28 => (bif decide ((l5.length + 1) * 80 ≤ bytesMost) then
 J f10t6 (f10s1 l (cs) (ch) (i64.wrap (n4 + 1)) (l5 ++ [y28]))
 else none)
 | none => none)
 else J f10t6 (f10s1 l (cs) (ch) (i64.wrap (n4 + 1)) l5))
 | none => none)
 else (bif decide ((List.take (30 : Nat) l).length ≤ 100) then
 (bif !(List.take (30 : Nat) l).all Nt.right then
 (bif decide (l5.length ≤ 100) then
 (bif !l5.all Nt.right then
 kk (V.bool true) ([])
 else kk (V.bool true) ([]))
 else none)
 else (bif decide (l5.length ≤ 100) then
 (bif !l5.all Nt.right then
 kk (V.bool false) ([])
 else J f10t15 (f10s2 (cs) (ch) (0 : Int) ((PS.new (List.take (30 : Nat) l)).place) ((PS.new (List.take (30 : Nat) l)).left) ((PS.new (List.take (30 : Nat) l)).num) ((PS.new (List.take (30 : Nat) l)).den) ((PS.new (List.take (30 : Nat) l)).from_) ((PS.new (List.take (30 : Nat) l)).to_) (false) ((PS.new l5).place) ((PS.new l5).left) ((PS.new l5).num) ((PS.new l5).den) ((PS.new l5).from_) ((PS.new l5).to_) (false) ((PS.new (List.take (30 : Nat) l)).notes) ((PS.new (List.take (30 : Nat) l)).down) ((PS.new (List.take (30 : Nat) l)).cnt) ((PS.new l5).notes) ((PS.new l5).down) ((PS.new l5).cnt)))
 else none))
 else none)) := by kernel_rfl
theorem f10_2 (cs : List Pt) (ch n6 n7 n8 n9 n10 n11 n12 : Int) (b13 : Bool) (n14 n15 n16 n17 n18 n19 : Int) (b20 : Bool) (l21 : List Nt) (l22 : List Bool) (e23 : Cn) (l24 : List Nt) (l25 : List Bool) (e26 : Cn) :
 vseg (E32 8) f10cuts 0 J (k10 kk) 100000 true f10t15 (f10s2 cs ch n6 n7 n8 n9 n10 n11 n12 b13 n14 n15 n16 n17 n18 n19 b20 l21 l22 e23 l24 l25 e26) =
 (bif decide (n6 < (↑(callsOk cs).length : Int)) then
 (match idx (callsOk cs) n6 with
 | some y29 => (bif pokB (PS.mk n7 n8 n9 n10 n11 n12 l21 l22 e23 b13) then
 (match idx (callsOk cs) n6 with
 | some y30 => (bif pokB (PS.mk n14 n15 n16 n17 n18 n19 l24 l25 e26 b20) then
 J f10t21 (f10s3 (cs) (ch) n6 n7 n8 n9 n10 n11 n12 l21 l22 e23 b13 y29 n14 n15 n16 n17 n18 n19 l24 l25 e26 b20 y30 (0 : Int) (((PS.mk n7 n8 n9 n10 n11 n12 l21 l22 e23 b13).done y29).snd.place) (((PS.mk n7 n8 n9 n10 n11 n12 l21 l22 e23 b13).done y29).snd.left) (((PS.mk n7 n8 n9 n10 n11 n12 l21 l22 e23 b13).done y29).snd.num) (((PS.mk n7 n8 n9 n10 n11 n12 l21 l22 e23 b13).done y29).snd.den) (((PS.mk n7 n8 n9 n10 n11 n12 l21 l22 e23 b13).done y29).snd.from_) (((PS.mk n7 n8 n9 n10 n11 n12 l21 l22 e23 b13).done y29).snd.to_) (((PS.mk n7 n8 n9 n10 n11 n12 l21 l22 e23 b13).done y29).snd.on) (((PS.mk n14 n15 n16 n17 n18 n19 l24 l25 e26 b20).done y30).snd.place) (((PS.mk n14 n15 n16 n17 n18 n19 l24 l25 e26 b20).done y30).snd.left) (((PS.mk n14 n15 n16 n17 n18 n19 l24 l25 e26 b20).done y30).snd.num) (((PS.mk n14 n15 n16 n17 n18 n19 l24 l25 e26 b20).done y30).snd.den) (((PS.mk n14 n15 n16 n17 n18 n19 l24 l25 e26 b20).done y30).snd.from_) (((PS.mk n14 n15 n16 n17 n18 n19 l24 l25 e26 b20).done y30).snd.to_) (((PS.mk n14 n15 n16 n17 n18 n19 l24 l25 e26 b20).done y30).snd.on) (((PS.mk n7 n8 n9 n10 n11 n12 l21 l22 e23 b13).done y29).snd.notes) (((PS.mk n7 n8 n9 n10 n11 n12 l21 l22 e23 b13).done y29).snd.down) (((PS.mk n7 n8 n9 n10 n11 n12 l21 l22 e23 b13).done y29).snd.cnt) (((PS.mk n14 n15 n16 n17 n18 n19 l24 l25 e26 b20).done y30).snd.notes) (((PS.mk n14 n15 n16 n17 n18 n19 l24 l25 e26 b20).done y30).snd.down) (((PS.mk n14 n15 n16 n17 n18 n19 l24 l25 e26 b20).done y30).snd.cnt))
 else none)
 | none => none)
 else none)
 | none => none)
 else kk (V.bool true) ([])) := by kernel_rfl
theorem f10_3 (cs : List Pt) (ch n6 n7 n8 n9 n10 n11 n12 : Int) (l21 : List Nt) (l22 : List Bool) (e23 : Cn) (b13 : Bool) (y29 : Int × Int × Int) (n14 n15 n16 n17 n18 n19 : Int) (l24 : List Nt) (l25 : List Bool) (e26 : Cn) (b20 : Bool) (y30 : Int × Int × Int) (n31 n32 n33 n34 n35 n36 n37 : Int) (b38 : Bool) (n39 n40 n41 n42 n43 n44 : Int) (b45 : Bool) (l46 : List Nt) (l47 : List Bool) (e48 : Cn) (l49 : List Nt) (l50 : List Bool) (e51 : Cn) :
 vseg (E32 8) f10cuts 0 J (k10 kk) 100000 true f10t21 (f10s3 cs ch n6 n7 n8 n9 n10 n11 n12 l21 l22 e23 b13 y29 n14 n15 n16 n17 n18 n19 l24 l25 e26 b20 y30 n31 n32 n33 n34 n35 n36 n37 b38 n39 n40 n41 n42 n43 n44 b45 l46 l47 e48 l49 l50 e51) =
 (bif decide (n31 < (↑((PS.mk n7 n8 n9 n10 n11 n12 l21 l22 e23 b13).done y29).fst.fst.length : Int)) then
 (match idx ((PS.mk n7 n8 n9 n10 n11 n12 l21 l22 e23 b13).done y29).fst.fst n31 with
 | some y52 => (bif decide (y52.snd.snd.fst = ch) then
 (match idx ((PS.mk n7 n8 n9 n10 n11 n12 l21 l22 e23 b13).done y29).fst.fst n31 with
 | some y53 => J f10t21 (f10s4 (cs) (ch) n6 n7 n8 n9 n10 n11 n12 l21 l22 e23 b13 y29 n14 n15 n16 n17 n18 n19 l24 l25 e26 b20 y30 (i64.wrap (n31 + 1)) n32 n33 n34 n35 n36 n37 b38 n39 n40 n41 n42 n43 n44 b45 ([y53]) l46 l47 e48 l49 l50 e51)
 | none => none)
 else J f10t21 (f10s3 (cs) (ch) n6 n7 n8 n9 n10 n11 n12 l21 l22 e23 b13 y29 n14 n15 n16 n17 n18 n19 l24 l25 e26 b20 y30 (i64.wrap (n31 + 1)) n32 n33 n34 n35 n36 n37 b38 n39 n40 n41 n42 n43 n44 b45 l46 l47 e48 l49 l50 e51))
 | none => none)
 else (bif !decide (((PS.mk n7 n8 n9 n10 n11 n12 l21 l22 e23 b13).done y29).fst.snd = ((PS.mk n14 n15 n16 n17 n18 n19 l24 l25 e26 b20).done y30).fst.snd) then
 kk (V.bool false) ([])
 else (bif !decide ([] = ((PS.mk n14 n15 n16 n17 n18 n19 l24 l25 e26 b20).done y30).fst.fst) then
 kk (V.bool false) ([])
 else (bif !decide (n32 = n39) then
 kk (V.bool false) ([])
 else J f10t15 (f10s2 (cs) (ch) (i64.wrap (n6 + 1)) n32 n33 n34 n35 n36 n37 b38 n39 n40 n41 n42 n43 n44 b45 l46 l47 e48 l49 l50 e51))))) := by kernel_rfl
theorem f10_4 (cs : List Pt) (ch n6 n7 n8 n9 n10 n11 n12 : Int) (l21 : List Nt) (l22 : List Bool) (e23 : Cn) (b13 : Bool) (y29 : Int × Int × Int) (n14 n15 n16 n17 n18 n19 : Int) (l24 : List Nt) (l25 : List Bool) (e26 : Cn) (b20 : Bool) (y30 : Int × Int × Int) (n54 n55 n56 n57 n58 n59 n60 : Int) (b61 : Bool) (n62 n63 n64 n65 n66 n67 : Int) (b68 : Bool) (l69 : List Sg) (l70 : List Nt) (l71 : List Bool) (e72 : Cn) (l73 : List Nt) (l74 : List Bool) (e75 : Cn) :
 vseg (E32 8) f10cuts 0 J (k10 kk) 100000 true f10t21 (f10s4 cs ch n6 n7 n8 n9 n10 n11 n12 l21 l22 e23 b13 y29 n14 n15 n16 n17 n18 n19 l24 l25 e26 b20 y30 n54 n55 n56 n57 n58 n59 n60 b61 n62 n63 n64 n65 n66 n67 b68 l69 l70 l71 e72 l73 l74 e75) =
 (bif decide (n54 < (↑((PS.mk n7 n8 n9 n10 n11 n12 l21 l22 e23 b13).done y29).fst.fst.length : Int)) then
 (match idx ((PS.mk n7 n8 n9 n10 n11 n12 l21 l22 e23 b13).done y29).fst.fst n54 with
 | some y76 => (bif decide (y76.snd.snd.fst = ch) then
 (match idx ((PS.mk n7 n8 n9 n10 n11 n12 l21 l22 e23 b13).done y29).fst.fst n54 with
 | some y77 => (bif decide ((l69.length + 1) * 40 ≤ bytesMost) then
 J f10t21 (f10s4 (cs) (ch) n6 n7 n8 n9 n10 n11 n12 l21 l22 e23 b13 y29 n14 n15 n16 n17 n18 n19 l24 l25 e26 b20 y30 (i64.wrap (n54 + 1)) n55 n56 n57 n58 n59 n60 b61 n62 n63 n64 n65 n66 n67 b68 (l69 ++ [y77]) l70 l71 e72 l73 l74 e75)
 else none)
 | none => none)
 else J f10t21 (f10s4 (cs) (ch) n6 n7 n8 n9 n10 n11 n12 l21 l22 e23 b13 y29 n14 n15 n16 n17 n18 n19 l24 l25 e26 b20 y30 (i64.wrap (n54 + 1)) n55 n56 n57 n58 n59 n60 b61 n62 n63 n64 n65 n66 n67 b68 l69 l70 l71 e72 l73 l74 e75))
 | none => none)
 else (bif !decide (((PS.mk n7 n8 n9 n10 n11 n12 l21 l22 e23 b13).done y29).fst.snd = ((PS.mk n14 n15 n16 n17 n18 n19 l24 l25 e26 b20).done y30).fst.snd) then
 kk (V.bool false) ([])
 else (bif decide (l69.length < 4611686018427387904) then
 (bif !decide (l69 = ((PS.mk n14 n15 n16 n17 n18 n19 l24 l25 e26 b20).done y30).fst.fst) then
 kk (V.bool false) ([])
 else (bif !decide (n55 = n62) then
 kk (V.bool false) ([])
 else J f10t15 (f10s2 (cs) (ch) (i64.wrap (n6 + 1)) n55 n56 n57 n58 n59 n60 b61 n62 n63 n64 n65 n66 n67 b68 l70 l71 e72 l73 l74 e75)))
 else none))) := by kernel_rfl
end Vm.S14
open Go Go.Proofs
namespace Vm.S14
theorem callOk_tick (c : Int × Int × Int) (h : (callOk c).1 < 0 ∨ 4 < (callOk c).1) : (callOk c).2.1 ≤ 1000002 := by
 have hk : (callOk c).1 = c.1 := rfl
 rw [hk] at h
 have hd : (decide (c.1 < 0) || decide (4 < c.1)) = true := by simp [h]
 show (bif (decide (c.1 < 0) || decide (4 < c.1)) && decide (1000000 < c.2.1) then 1000001 + Int.tmod c.2.1 2 else c.2.1) ≤ 1000002
 rw [hd, Bool.true_and]
 by_cases h1 : 1000000 < c.2.1
 ·rw [bif_pos (by exact decide_eq_true h1), Int.tmod_eq_emod_of_nonneg (by omega)]
  omega
 ·rw [bif_neg (by exact decide_eq_false h1)]
  omega
theorem sends_few {p : PS} (h : POk p) (c : Int × Int × Int) (hc : c.1 < 0 ∨ 4 < c.1 → c.2.1 ≤ 1000002) : (p.done c).1.1.length ≤ 60000000000 := by
 have hl : p.notes.length < 1000000 := by have := h.few; omega
 have hk := keysL_len h.inv h.right
 have hf := h.few
 have hs : p.stopS.length ≤ 100 := by unfold PS.stopS upsAt; rw [List.length_map]; omega
 have h0 : (0 : Nat) ≤ 60000000000 := Nat.zero_le _
 unfold PS.done
 by_cases c0 : c.1 = 0
 ·rw [if_pos c0]; exact h0
 rw [if_neg c0]
 by_cases c1 : c.1 = 1
 ·rw [if_pos c1]; show p.stopS.length ≤ _; omega
 rw [if_neg c1]
 by_cases c2 : c.1 = 2
 ·rw [if_pos c2]
  unfold PS.seek
  split
  ·show p.stopS.length ≤ _; omega
  ·exact h0
 rw [if_neg c2]
 by_cases c3 : c.1 = 3
 ·rw [if_pos c3]; exact h0
 rw [if_neg c3]
 by_cases c4 : c.1 = 4
 ·rw [if_pos c4]; exact h0
 rw [if_neg c4]
 have hb := hc (by omega)
 unfold PS.tick
 split
 ·rename_i hn
  split
  ·split
   ·exact h0
   ·have h1 := runs_acc_len h.right hl p.from_ p.to_ (p.tickN c.2.1).toNat (p.place, p.down, p.cnt, []) h.inv
    have hq0 := (h.tickN hn.1 hn.2).1
    have hq1 : p.tickN c.2.1 ≤ 100000300 := by
     have b1 := h.l0; have b2 := h.l1; have b3 := h.n0; have b4 := h.n1; have b5 := h.d1; have b6 := h.d0
     have e1 : 0 ≤ c.2.1 * p.num := Int.mul_nonneg hn.1 (by omega)
     have e2 : c.2.1 * p.num ≤ 1000002 * 100 := Int.mul_le_mul hb b4 (by omega) (by omega)
     have := Int.ediv_le_self p.den (show 0 ≤ p.left + c.2.1 * p.num by omega)
     unfold PS.tickN
     omega
    have h3 : (p.tickN c.2.1).toNat * (3 * p.notes.length) ≤ 100000300 * 300 := Nat.mul_le_mul (by omega) (by omega)
    show (runs p.notes p.from_ p.to_ (p.tickN c.2.1).toNat (p.place, p.down, p.cnt, [])).2.2.2.length ≤ _
    dsimp only [List.length_nil] at h1
    omega
  ·exact h0
 ·exact h0
theorem w10 {j : Nat} (h : j < 4611686018427387904) : IntKind.wrap .i64 ((j : Int) + 1) = ((j + 1 : Nat) : Int) := by rw [wrap64 (by omega) (by omega)]; push_cast; rfl
theorem take_filter {α : Type} {P : α → Bool} {A : List α} {j : Nat} (h : j < A.length) : (A.take (j + 1)).filter P = (A.take j).filter P ++ (if P A[j] = true then [A[j]] else []) := by
 rw [List.take_add_one, List.getElem?_eq_getElem h, List.filter_append]
 congr 1
 show List.filter P [A[j]] = _
 rw [List.filter_cons, List.filter_nil]
section
variable {R : Type} (kk : V → List Ob → Option R) (cs : List (Int × Int × Int)) (ch : Int)
noncomputable abbrev V10 (k : Nat) (t : List Item) (s : St) : Option R := vrun (E32 8) f10cuts 0 100000 (k10 kk) k t s
abbrev s100 (l : List Nt) (own : Bool) (i : Int) (acc : List Nt) : St := if own then f10s1 l cs ch i acc else f10s0 l cs ch i
abbrev s102 (p q : PS) (i : Int) : St := f10s2 cs ch i p.place p.left p.num p.den p.from_ p.to_ p.on q.place q.left q.num q.den q.from_ q.to_ q.on p.notes p.down p.cnt q.notes q.down q.cnt
abbrev s103 (own : Bool) (p q p' q' : PS) (y : Int × Int × Int) (i j : Int) (acc : List Sg) : St :=
 if own then f10s4 cs ch i p.place p.left p.num p.den p.from_ p.to_ p.notes p.down p.cnt p.on y q.place q.left q.num q.den q.from_ q.to_ q.notes q.down q.cnt q.on y j p'.place p'.left p'.num p'.den p'.from_ p'.to_ p'.on q'.place q'.left q'.num q'.den q'.from_ q'.to_ q'.on acc p'.notes p'.down p'.cnt q'.notes q'.down q'.cnt
 else f10s3 cs ch i p.place p.left p.num p.den p.from_ p.to_ p.notes p.down p.cnt p.on y q.place q.left q.num q.den q.from_ q.to_ q.notes q.down q.cnt q.on y j p'.place p'.left p'.num p'.den p'.from_ p'.to_ p'.on q'.place q'.left q'.num q'.den q'.from_ q'.to_ q'.on p'.notes p'.down p'.cnt q'.notes q'.down q'.cnt
theorem f10_inner (p q : PS) (y : Int × Int × Int) (i : Nat) (hi : i < 100) (hA : (p.done y).1.1.length ≤ 60000000000) (h : Twin ch (p.done y) (q.done y))
  (next : ∃ N, V10 kk N f10t15 (s102 cs ch (p.done y).2 (q.done y).2 ((i + 1 : Nat) : Int)) = kk (.bool true) []) :
  ∀ (d j : Nat) (own : Bool) (acc : List Sg), (own = false → acc = []) → j + d = (p.done y).1.1.length → acc = ((p.done y).1.1.take j).filter (selS ch) →
    ∃ N, V10 kk N f10t21 (s103 cs ch own p q (p.done y).2 (q.done y).2 y i j acc) = kk (.bool true) []
 | 0, j, own, acc, ho, hj, ha => by
   obtain ⟨N, hN⟩ := next
   refine ⟨N + 1, ?_⟩
   rw [List.take_of_length_le (show (p.done y).1.1.length ≤ j by omega), ← h.sent] at ha
   have hlen : acc.length < 4611686018427387904 := by
    rw [ha, h.sent]
    have := List.length_filter_le (selS ch) (p.done y).1.1
    omega
   have hcode : (!decide ((p.done y).1.2 = (q.done y).1.2)) = false := by rw [h.code]; simp
   have hplace : (!decide ((p.done y).2.place = (q.done y).2.place)) = false := by rw [h.beside.place]; simp
   unfold V10
   rw [vrun_succ]
   cases own with
   | false =>
     have := ho rfl
     subst this
     refine (f10_3 _ kk cs ch i p.place p.left p.num p.den p.from_ p.to_ p.notes p.down p.cnt p.on y q.place q.left q.num q.den q.from_ q.to_ q.notes q.down q.cnt q.on y j (p.done y).2.place (p.done y).2.left (p.done y).2.num (p.done y).2.den (p.done y).2.from_ (p.done y).2.to_ (p.done y).2.on (q.done y).2.place (q.done y).2.left (q.done y).2.num (q.done y).2.den (q.done y).2.from_ (q.done y).2.to_ (q.done y).2.on (p.done y).2.notes (p.done y).2.down (p.done y).2.cnt (q.done y).2.notes (q.done y).2.down (q.done y).2.cnt).trans ?_
     refine (bif_neg (by exact decide_eq_false (show ¬ (j : Int) < ((p.done y).1.1.length : Int) by omega))).trans ?_
     refine (bif_neg (by exact hcode)).trans ?_
     refine (bif_neg (by exact (show (!decide ([] = (q.done y).1.1)) = false by rw [← ha]; rfl))).trans ?_
     refine (bif_neg (by exact hplace)).trans ?_
     rw [w10 (by omega)]
     exact hN
   | true =>
     refine (f10_4 _ kk cs ch i p.place p.left p.num p.den p.from_ p.to_ p.notes p.down p.cnt p.on y q.place q.left q.num q.den q.from_ q.to_ q.notes q.down q.cnt q.on y j (p.done y).2.place (p.done y).2.left (p.done y).2.num (p.done y).2.den (p.done y).2.from_ (p.done y).2.to_ (p.done y).2.on (q.done y).2.place (q.done y).2.left (q.done y).2.num (q.done y).2.den (q.done y).2.from_ (q.done y).2.to_ (q.done y).2.on acc (p.done y).2.notes (p.done y).2.down (p.done y).2.cnt (q.done y).2.notes (q.done y).2.down (q.done y).2.cnt).trans ?_
     refine (bif_neg (by exact decide_eq_false (show ¬ (j : Int) < ((p.done y).1.1.length : Int) by omega))).trans ?_
     refine (bif_neg (by exact hcode)).trans ?_
     refine (bif_pos (by exact decide_eq_true hlen)).trans ?_
     refine (bif_neg (by exact (show (!decide (acc = (q.done y).1.1)) = false by rw [ha]; simp))).trans ?_
     refine (bif_neg (by exact hplace)).trans ?_
     rw [w10 (by omega)]
     exact hN
 | d + 1, j, own, acc, ho, hj, ha => by
   have hjl : j < (p.done y).1.1.length := by omega
   have x1 : idx (p.done y).1.1 (j : Int) = some (p.done y).1.1[j] := by rw [idx_nat, List.getElem?_eq_getElem hjl]
   have y1 : idx ((PS.mk p.place p.left p.num p.den p.from_ p.to_ p.notes p.down p.cnt p.on).done y).fst.fst (j : Int) = some (p.done y).1.1[j] := x1
   have htf := take_filter (P := selS ch) hjl
   have hal : acc.length ≤ j := by
    rw [ha]
    exact Nat.le_trans (List.length_filter_le _ _) (by rw [List.length_take]; omega)
   by_cases hc : (p.done y).1.1[j].2.2.1 = ch
   ·rw [if_pos (by exact decide_eq_true hc)] at htf
    obtain ⟨N, hN⟩ := f10_inner p q y i hi hA h next d (j + 1) true (acc ++ [(p.done y).1.1[j]]) (fun h => by cases h) (by omega) (by rw [htf, ha])
    refine ⟨N + 1, ?_⟩
    unfold V10
    rw [vrun_succ]
    cases own with
    | false =>
      have := ho rfl
      subst this
      refine (f10_3 _ kk cs ch i p.place p.left p.num p.den p.from_ p.to_ p.notes p.down p.cnt p.on y q.place q.left q.num q.den q.from_ q.to_ q.notes q.down q.cnt q.on y j (p.done y).2.place (p.done y).2.left (p.done y).2.num (p.done y).2.den (p.done y).2.from_ (p.done y).2.to_ (p.done y).2.on (q.done y).2.place (q.done y).2.left (q.done y).2.num (q.done y).2.den (q.done y).2.from_ (q.done y).2.to_ (q.done y).2.on (p.done y).2.notes (p.done y).2.down (p.done y).2.cnt (q.done y).2.notes (q.done y).2.down (q.done y).2.cnt).trans ?_
      refine (bif_pos (by exact decide_eq_true (show (j : Int) < ((p.done y).1.1.length : Int) by omega))).trans ?_
      rw [y1, w10 (by omega)]
      refine (bif_pos (by exact decide_eq_true hc)).trans ?_
      exact hN
    | true =>
      refine (f10_4 _ kk cs ch i p.place p.left p.num p.den p.from_ p.to_ p.notes p.down p.cnt p.on y q.place q.left q.num q.den q.from_ q.to_ q.notes q.down q.cnt q.on y j (p.done y).2.place (p.done y).2.left (p.done y).2.num (p.done y).2.den (p.done y).2.from_ (p.done y).2.to_ (p.done y).2.on (q.done y).2.place (q.done y).2.left (q.done y).2.num (q.done y).2.den (q.done y).2.from_ (q.done y).2.to_ (q.done y).2.on acc (p.done y).2.notes (p.done y).2.down (p.done y).2.cnt (q.done y).2.notes (q.done y).2.down (q.done y).2.cnt).trans ?_
      refine (bif_pos (by exact decide_eq_true (show (j : Int) < ((p.done y).1.1.length : Int) by omega))).trans ?_
      rw [y1, w10 (by omega)]
      refine (bif_pos (by exact decide_eq_true hc)).trans ?_
      refine (bif_pos (by exact decide_eq_true (by unfold bytesMost; omega))).trans ?_
      exact hN
   ·rw [if_neg (by exact fun h => hc (of_decide_eq_true h)), List.append_nil] at htf
    obtain ⟨N, hN⟩ := f10_inner p q y i hi hA h next d (j + 1) own acc ho (by omega) (by rw [htf, ha])
    refine ⟨N + 1, ?_⟩
    unfold V10
    rw [vrun_succ]
    cases own with
    | false =>
      refine (f10_3 _ kk cs ch i p.place p.left p.num p.den p.from_ p.to_ p.notes p.down p.cnt p.on y q.place q.left q.num q.den q.from_ q.to_ q.notes q.down q.cnt q.on y j (p.done y).2.place (p.done y).2.left (p.done y).2.num (p.done y).2.den (p.done y).2.from_ (p.done y).2.to_ (p.done y).2.on (q.done y).2.place (q.done y).2.left (q.done y).2.num (q.done y).2.den (q.done y).2.from_ (q.done y).2.to_ (q.done y).2.on (p.done y).2.notes (p.done y).2.down (p.done y).2.cnt (q.done y).2.notes (q.done y).2.down (q.done y).2.cnt).trans ?_
      refine (bif_pos (by exact decide_eq_true (show (j : Int) < ((p.done y).1.1.length : Int) by omega))).trans ?_
      rw [y1, w10 (by omega)]
      refine (bif_neg (by exact decide_eq_false hc)).trans ?_
      exact hN
    | true =>
      refine (f10_4 _ kk cs ch i p.place p.left p.num p.den p.from_ p.to_ p.notes p.down p.cnt p.on y q.place q.left q.num q.den q.from_ q.to_ q.notes q.down q.cnt q.on y j (p.done y).2.place (p.done y).2.left (p.done y).2.num (p.done y).2.den (p.done y).2.from_ (p.done y).2.to_ (p.done y).2.on (q.done y).2.place (q.done y).2.left (q.done y).2.num (q.done y).2.den (q.done y).2.from_ (q.done y).2.to_ (q.done y).2.on acc (p.done y).2.notes (p.done y).2.down (p.done y).2.cnt (q.done y).2.notes (q.done y).2.down (q.done y).2.cnt).trans ?_
      refine (bif_pos (by exact decide_eq_true (show (j : Int) < ((p.done y).1.1.length : Int) by omega))).trans ?_
      rw [y1, w10 (by omega)]
      refine (bif_neg (by exact decide_eq_false hc)).trans ?_
      exact hN
theorem f10_calls : ∀ (d i : Nat) (p q : PS), i + d = (callsOk cs).length → Beside ch p q → ∃ N, V10 kk N f10t15 (s102 cs ch p q i) = kk (.bool true) []
 | 0, i, p, q, hi, hp => by
   refine ⟨1, ?_⟩
   unfold V10
   rw [vrun_succ]
   refine (f10_2 _ kk cs ch i p.place p.left p.num p.den p.from_ p.to_ p.on q.place q.left q.num q.den q.from_ q.to_ q.on p.notes p.down p.cnt q.notes q.down q.cnt).trans ?_
   exact bif_neg (by exact decide_eq_false (by omega))
 | d + 1, i, p, q, hi, hp => by
   have h12 : (callsOk cs).length ≤ 12 := by unfold callsOk; rw [List.length_map, List.length_take]; omega
   have hil : i < (callsOk cs).length := by omega
   have x1 : idx (callsOk cs) (i : Int) = some (callsOk cs)[i] := by rw [idx_nat, List.getElem?_eq_getElem hil]
   have hmem := List.getElem_mem hil
   generalize hy : (callsOk cs)[i] = y at x1 hmem
   have hyb : y.1 < 0 ∨ 4 < y.1 → y.2.1 ≤ 1000002 := by
    obtain ⟨c, _, rfl⟩ := List.mem_map.1 hmem
    exact callOk_tick c
   have ht := hp.done y
   have next := f10_calls d (i + 1) (p.done y).2 (q.done y).2 (by omega) ht.beside
   obtain ⟨N, hN⟩ := f10_inner kk cs ch p q y i (by omega) (sends_few hp.ok y hyb) ht next (p.done y).1.1.length 0 false [] (fun _ => rfl) (by omega) rfl
   refine ⟨N + 1, ?_⟩
   unfold V10
   rw [vrun_succ]
   refine (f10_2 _ kk cs ch i p.place p.left p.num p.den p.from_ p.to_ p.on q.place q.left q.num q.den q.from_ q.to_ q.on p.notes p.down p.cnt q.notes q.down q.cnt).trans ?_
   refine (bif_pos (by exact decide_eq_true (by omega))).trans ?_
   rw [x1]
   refine (bif_pos (by exact pokB_eq hp.ok)).trans ?_
   refine (bif_pos (by exact pokB_eq hp.ok')).trans ?_
   exact hN
theorem f10_notes (l : List Nt) : ∀ (d i : Nat) (own : Bool) (acc : List Nt), (own = false → acc = []) → i + d = (l.take 30).length → acc = ((l.take 30).take i).filter (selN ch) → ∃ N, V10 kk N f10t6 (s100 cs ch l own i acc) = kk (.bool true) []
 | 0, i, own, acc, ho, hi, ha => by
   have hl30 : (l.take 30).length ≤ 100 := by rw [List.length_take]; omega
   rw [List.take_of_length_le (show (l.take 30).length ≤ i by omega)] at ha
   have hal : acc.length ≤ 100 := by rw [ha]; exact Nat.le_trans (List.length_filter_le _ _) hl30
   cases hr : (l.take 30).all Nt.right with
   | false =>
     refine ⟨1, ?_⟩
     unfold V10
     rw [vrun_succ]
     cases own with
     | false =>
       refine (f10_0 _ kk l cs ch i).trans ?_
       refine (bif_neg (by exact decide_eq_false (by omega))).trans ?_
       refine (bif_pos (by exact decide_eq_true hl30)).trans ?_
       rw [hr]
       exact bif_pos rfl
     | true =>
       refine (f10_1 _ kk l cs ch i acc).trans ?_
       refine (bif_neg (by exact decide_eq_false (by omega))).trans ?_
       refine (bif_pos (by exact decide_eq_true hl30)).trans ?_
       rw [hr]
       refine (bif_pos rfl).trans ?_
       refine (bif_pos (by exact decide_eq_true hal)).trans ?_
       cases acc.all Nt.right <;> rfl
   | true =>
     have hb := Beside.new (ch := ch) hl30 hr
     rw [← ha] at hb
     obtain ⟨N, hN⟩ := f10_calls kk cs ch (callsOk cs).length 0 (PS.new (l.take 30)) (PS.new acc) (by omega) hb
     refine ⟨N + 1, ?_⟩
     unfold V10
     rw [vrun_succ]
     cases own with
     | false =>
       have := ho rfl
       subst this
       refine (f10_0 _ kk l cs ch i).trans ?_
       refine (bif_neg (by exact decide_eq_false (by omega))).trans ?_
       refine (bif_pos (by exact decide_eq_true hl30)).trans ?_
       rw [hr]
       refine (bif_neg rfl).trans ?_
       have e : (PS.new []).notes = [] := List.eq_nil_of_length_eq_zero (by show (stabN []).length = 0; rw [stabN_len]; rfl)
       unfold s102 at hN
       rw [e] at hN
       exact hN
     | true =>
       have hrr : acc.all Nt.right = true := by
        rw [ha]
        exact List.all_eq_true.2 fun x hx => List.all_eq_true.1 hr x (List.mem_filter.1 hx).1
       refine (f10_1 _ kk l cs ch i acc).trans ?_
       refine (bif_neg (by exact decide_eq_false (by omega))).trans ?_
       refine (bif_pos (by exact decide_eq_true hl30)).trans ?_
       rw [hr]
       refine (bif_neg rfl).trans ?_
       refine (bif_pos (by exact decide_eq_true hal)).trans ?_
       rw [hrr]
       refine (bif_neg rfl).trans ?_
       exact hN
 | d + 1, i, own, acc, ho, hi, ha => by
   have hl30 : (l.take 30).length ≤ 30 := by rw [List.length_take]; omega
   have hil : i < (l.take 30).length := by omega
   have x1 : idx (l.take 30) (i : Int) = some (l.take 30)[i] := by rw [idx_nat, List.getElem?_eq_getElem hil]
   have htf := take_filter (P := selN ch) hil
   have hal : acc.length ≤ 30 := by
    rw [ha]
    exact Nat.le_trans (List.length_filter_le _ _) (by rw [List.length_take]; omega)
   by_cases hc : (l.take 30)[i].chan = ch
   ·rw [if_pos (by exact decide_eq_true hc)] at htf
    obtain ⟨N, hN⟩ := f10_notes l d (i + 1) true (acc ++ [(l.take 30)[i]]) (fun h => by cases h) (by omega) (by rw [htf, ha])
    refine ⟨N + 1, ?_⟩
    unfold V10
    rw [vrun_succ]
    cases own with
    | false =>
      have := ho rfl
      subst this
      refine (f10_0 _ kk l cs ch i).trans ?_
      refine (bif_pos (by exact decide_eq_true (by omega))).trans ?_
      rw [x1, w10 (by omega)]
      refine (bif_pos (by exact decide_eq_true hc)).trans ?_
      exact hN
    | true =>
      refine (f10_1 _ kk l cs ch i acc).trans ?_
      refine (bif_pos (by exact decide_eq_true (by omega))).trans ?_
      rw [x1, w10 (by omega)]
      refine (bif_pos (by exact decide_eq_true hc)).trans ?_
      refine (bif_pos (by exact decide_eq_true (by unfold bytesMost; omega))).trans ?_
      exact hN
   ·rw [if_neg (by exact fun h => hc (of_decide_eq_true h)), List.append_nil] at htf
    obtain ⟨N, hN⟩ := f10_notes l d (i + 1) own acc ho (by omega) (by rw [htf, ha])
    refine ⟨N + 1, ?_⟩
    unfold V10
    rw [vrun_succ]
    cases own with
    | false =>
      refine (f10_0 _ kk l cs ch i).trans ?_
      refine (bif_pos (by exact decide_eq_true (by omega))).trans ?_
      rw [x1, w10 (by omega)]
      refine (bif_neg (by exact decide_eq_false hc)).trans ?_
      exact hN
    | true =>
      refine (f10_1 _ kk l cs ch i acc).trans ?_
      refine (bif_pos (by exact decide_eq_true (by omega))).trans ?_
      rw [x1, w10 (by omega)]
      refine (bif_neg (by exact decide_eq_false hc)).trans ?_
      exact hN
theorem f10_run (l : List Nt) : ∃ N, V10 kk N [.code (fb Tryd.f10).2] (start [.sl rNote l, .sl rCall cs, .int .i64 ch] []) = kk (.bool true) [] := by
 obtain ⟨N, hN⟩ := f10_notes kk cs ch l (l.take 30).length 0 false [] (fun _ => rfl) (by omega) rfl
 refine ⟨N + 1, ?_⟩
 unfold V10
 rw [vrun_succ]
 refine (f10_go _ kk l cs ch).trans ?_
 exact hN
end
end Vm.S14
namespace Go.Proofs.YtkhclggkicnndaaDoor
open Go.ChangeShapes Go.WideShapes Go.ChangeAt Go.WideMaps Go.WideElems Go.RowKit Vm
theorem own : ownKnob Tryd.prog.godebug = none := by kernel_rfl
theorem laidOut : laidOutB Tryd.prog = true := by kernel_rfl
theorem et : Tryd.prog.globalNamed "errors.errorType" = some 0 := by kernel_rfl
theorem rt : (Tryd.prog.cutTypes.find? (·.1 == "internal/reflectlite.rtype")).map (·.2) = some 117 := by kernel_rfl
theorem oneRow : ((List.range 177).filter fun t => Tryd.prog.rowNamed t [101, 114, 114, 111, 114]) = [76] := by kernel_rfl
theorem tsize : Tryd.prog.types.size = 177 := by kernel_rfl
abbrev theLaid : List (String × DataW Unit) := [("errors.errorType", Rows.laid_errors_errorType)]
theorem handle_of_laid {W : World} (h : laidMetH Tryd.prog theLaid W) : W.cell? ⟨0, 0, none⟩ = some (.iface 117 (.agg #[.pointer (some ⟨1, 76, none⟩)])) := by
 have h' : laidMet Tryd.prog [] W ∧ handlesMet Tryd.prog theLaid W := h
 obtain ⟨name, u, ty, e1, e2, e3, e4, e5⟩ := h'.2 _ (List.mem_singleton.2 rfl)
 have en : name = [101, 114, 114, 111, 114] := (Option.some.inj e1).symm
 subst en
 obtain rfl := Option.some.inj (rt.symm.trans e2)
 have hm : ty ∈ (List.range 177).filter fun t => Tryd.prog.rowNamed t [101, 114, 114, 111, 114] := List.mem_filter.2 ⟨List.mem_range.2 (by rw [← tsize]; exact e3), e4⟩
 rw [oneRow] at hm
 obtain rfl := List.mem_singleton.1 hm
 have hh : typeHandle Tryd.prog 76 = .pointer (some ⟨1, 76, none⟩) := by kernel_rfl
 rw [hh] at e5
 simpa using World.var?_cell et e5 0
theorem globs {W : World} (h : laidMetH Tryd.prog theLaid W) : GlobOk S14.gls W (allOld W) := by
 refine ⟨(fun g r xs hg => (by cases hg)), fun g v hv => ?_⟩
 have hv' : (if g = 0 then some (Value.iface 117 (.agg #[.pointer (some ⟨1, 76, none⟩)])) else none) = some v := hv
 split at hv'
 ·rename_i e
  subst e
  cases hv'
  have hc := handle_of_laid h
  unfold World.cell? at hc
  split at hc
  ·rename_i cs T fz hb
   have hb' : W.heap[0]? = some (.cells cs T fz) := hb
   refine ⟨(Array.getElem?_eq_some_iff.1 hb').1, cs, T, fz, hb', ?_⟩
   simpa using hc
  ·cases hc
 ·cases hv'
noncomputable def W0 (os : Os) : World :=
 let w0 := World.holding Tryd.prog os ⟨#[], #[], []⟩
 { w0 with heap := w0.heap.modify 0 fun
     | .cells _ t frozen => .cells #[.iface 117 (.agg #[.pointer (some ⟨1, 76, none⟩)])] t frozen
     | o => o }
theorem laid_met (os : Os) (args : Array Value) : laidMetH Tryd.prog theLaid ((W0 os).forCall (fun _ _ => 0) ⟨#[], args, []⟩).memory :=
 laidMetH_of_parts (laidMet_nil _ _) (by kernel_rfl)
end Go.Proofs.YtkhclggkicnndaaDoor
