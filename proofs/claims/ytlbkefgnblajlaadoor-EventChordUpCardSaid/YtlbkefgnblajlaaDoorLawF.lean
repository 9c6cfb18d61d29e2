/- Chords in the program and in the document's answer, as runs of the value machine. -/
import Derived.Test.YtlbkefgnblajlaaDoorLawE
import Derived.Test.YtlbkefgnblajlaaDoorVmE
import Derived.KernelRfl
import Derived.Test.YtlbkefgnblajlaaDoorWords
set_option maxRecDepth 100000
open Go Go.Proofs Go.IntKind
namespace Vm.S6b
variable {R : Type} (J : List Item → St → Option R) (kk : V → List Ob → Option R)
noncomputable abbrev f10cuts : Cuts := look [(8, [2, 4, 5, 27, 28, 29]), (16, [2, 4, 5, 7, 27, 28, 29, 52, 53, 54]), (28, [2, 4, 5, 98, 99, 100])]
noncomputable abbrev f10t28 : List Item := itemsAt (fb Tryd.f10).2 28
noncomputable abbrev f10t16 : List Item := itemsAt (fb Tryd.f10).2 16
noncomputable abbrev f10t8 : List Item := itemsAt (fb Tryd.f10).2 8
def f10s0 (l : List Ev) (n2 n3 n4 n5 n6 n7 : Int) (s8 : List UInt8) (n9 n10 n11 n12 n13 : Int) (s14 : List UInt8) (e15 : List (Pt × Bool)) : St := { fr := [(2, V.ref 0 0 0 0), (4, V.ref 1 0 0 0), (5, V.map 2), (27, V.sl rEvent l), (28, V.int i64 (↑l.length : Int)), (29, V.int i64 n2)], hp := [(0, Ob.var [V.int i64 n3, V.nilsl, V.nilsl, V.int i64 n4, V.int i64 n5, V.int i64 n6, V.int i64 n7, V.nilsl, V.str s8]), (1, Ob.var [V.int i64 n9, V.nilsl, V.nilsl, V.int i64 n10, V.int i64 n11, V.int i64 n12, V.int i64 n13, V.nilsl, V.str s14]), (2, Ob.map rPitch true rB false e15)], nx := 3 }
def f10s1 (l : List Ev) (n2 : Int) (y16 : Ev) (n17 n18 n19 n20 n21 n22 : Int) (s23 : List UInt8) (n24 n25 n26 n27 n28 : Int) (s29 : List UInt8) (e30 : List (Pt × Bool)) (x31 : Ev) (l32 : List Int) : St := { fr := [(2, V.ref 0 0 0 0), (4, V.ref 1 0 0 0), (5, V.map 2), (7, V.ref 3 0 0 0), (27, V.sl rEvent l), (28, V.int i64 (↑l.length : Int)), (29, V.int i64 n2), (52, V.sl rPitch y16.snd.fst), (53, V.int i64 (↑(List.length y16.snd.fst) : Int)), (54, V.int i64 n17)], hp := [(0, Ob.var [V.int i64 n18, V.nilsl, V.nilsl, V.int i64 n19, V.int i64 n20, V.int i64 n21, V.int i64 n22, V.nilsl, V.str s23]), (1, Ob.var [V.int i64 n24, V.nilsl, V.nilsl, V.int i64 n25, V.int i64 n26, V.int i64 n27, V.int i64 n28, V.own 4, V.str s29]), (2, Ob.map rPitch true rB false e30), (3, Ob.var [V.int i64 x31.fst, V.sl rPitch x31.snd.fst, V.sl rB x31.snd.snd.fst, V.int i64 x31.snd.snd.snd.fst, V.int i64 x31.snd.snd.snd.snd.fst, V.int i64 x31.snd.snd.snd.snd.snd.fst, V.int i64 x31.snd.snd.snd.snd.snd.snd.fst, V.sl rI x31.snd.snd.snd.snd.snd.snd.snd.fst, V.str x31.snd.snd.snd.snd.snd.snd.snd.snd]), (4, Ob.arr rI l32 false)], nx := 5 }
def f10s3 (l : List Ev) (n53 n54 n55 n56 n57 n58 : Int) (s59 : List UInt8) (n60 n61 n62 n63 n64 : Int) (s65 : List UInt8) (e66 : List (Pt × Bool)) (l67 : List Int) : St := { fr := [(2, V.ref 0 0 0 0), (4, V.ref 1 0 0 0), (5, V.map 2), (27, V.sl rEvent l), (28, V.int i64 (↑l.length : Int)), (29, V.int i64 n53)], hp := [(0, Ob.var [V.int i64 n54, V.nilsl, V.nilsl, V.int i64 n55, V.int i64 n56, V.int i64 n57, V.int i64 n58, V.nilsl, V.str s59]), (1, Ob.var [V.int i64 n60, V.nilsl, V.nilsl, V.int i64 n61, V.int i64 n62, V.int i64 n63, V.int i64 n64, V.own 3, V.str s65]), (2, Ob.map rPitch true rB false e66), (3, Ob.arr rI l67 false)], nx := 4 }
def f10s4 (l : List Ev) (n71 n72 n73 n74 n75 n76 : Int) (s77 : List UInt8) (n78 n79 n80 n81 n82 : Int) (s83 : List UInt8) (e84 : List (Pt × Bool)) (l85 : List Pt) (l86 : List Int) : St := { fr := [(2, V.ref 0 0 0 0), (4, V.ref 1 0 0 0), (5, V.map 2), (27, V.sl rEvent l), (28, V.int i64 (↑l.length : Int)), (29, V.int i64 n71)], hp := [(0, Ob.var [V.int i64 n72, V.nilsl, V.nilsl, V.int i64 n73, V.int i64 n74, V.int i64 n75, V.int i64 n76, V.nilsl, V.str s77]), (1, Ob.var [V.int i64 n78, V.own 3, V.nilsl, V.int i64 n79, V.int i64 n80, V.int i64 n81, V.int i64 n82, V.own 4, V.str s83]), (2, Ob.map rPitch true rB false e84), (3, Ob.arr rPitch l85 false), (4, Ob.arr rI l86 false)], nx := 5 }
def f10s5 (l : List Ev) (n53 : Int) (y87 : Ev) (n88 n89 n90 n91 n92 n93 : Int) (s94 : List UInt8) (n95 n96 n97 n98 n99 : Int) (s100 : List UInt8) (e101 : List (Pt × Bool)) (x102 : Ev) (l103 : List Int) : St := { fr := [(2, V.ref 0 0 0 0), (4, V.ref 1 0 0 0), (5, V.map 2), (7, V.ref 3 0 0 0), (27, V.sl rEvent l), (28, V.int i64 (↑l.length : Int)), (29, V.int i64 n53), (52, V.sl rPitch y87.snd.fst), (53, V.int i64 (↑(List.length y87.snd.fst) : Int)), (54, V.int i64 n88)], hp := [(0, Ob.var [V.int i64 n89, V.nilsl, V.nilsl, V.int i64 n90, V.int i64 n91, V.int i64 n92, V.int i64 n93, V.nilsl, V.str s94]), (1, Ob.var [V.int i64 n95, V.nilsl, V.nilsl, V.int i64 n96, V.int i64 n97, V.int i64 n98, V.int i64 n99, V.own 4, V.str s100]), (2, Ob.map rPitch true rB false e101), (3, Ob.var [V.int i64 x102.fst, V.sl rPitch x102.snd.fst, V.sl rB x102.snd.snd.fst, V.int i64 x102.snd.snd.snd.fst, V.int i64 x102.snd.snd.snd.snd.fst, V.int i64 x102.snd.snd.snd.snd.snd.fst, V.int i64 x102.snd.snd.snd.snd.snd.snd.fst, V.sl rI x102.snd.snd.snd.snd.snd.snd.snd.fst, V.str x102.snd.snd.snd.snd.snd.snd.snd.snd]), (4, Ob.arr rI l103 false)], nx := 5 }
def f10s6 (n104 n105 n106 n107 n108 n109 : Int) (s110 : List UInt8) (n111 n112 n113 n114 n115 : Int) (l116 : List Int) (s117 : List UInt8) (e118 : List (Pt × Bool)) : St := { fr := [(2, V.ref 0 0 0 0), (4, V.ref 1 0 0 0), (5, V.map 2), (98, V.nilsl), (99, V.int i64 (0 : Int)), (100, V.int i64 n104)], hp := [(0, Ob.var [V.int i64 n105, V.nilsl, V.nilsl, V.int i64 n106, V.int i64 n107, V.int i64 n108, V.int i64 n109, V.nilsl, V.str s110]), (1, Ob.var [V.int i64 n111, V.nilsl, V.nilsl, V.int i64 n112, V.int i64 n113, V.int i64 n114, V.int i64 n115, V.sl rI l116, V.str s117]), (2, Ob.map rPitch true rB false e118)], nx := 3 }
def f10s7 (l : List Ev) (n71 : Int) (y119 : Ev) (n120 n121 n122 n123 n124 n125 : Int) (s126 : List UInt8) (n127 n128 n129 n130 n131 : Int) (s132 : List UInt8) (e133 : List (Pt × Bool)) (x134 : Ev) (l135 : List Pt) (l136 : List Int) : St := { fr := [(2, V.ref 0 0 0 0), (4, V.ref 1 0 0 0), (5, V.map 2), (7, V.ref 3 0 0 0), (27, V.sl rEvent l), (28, V.int i64 (↑l.length : Int)), (29, V.int i64 n71), (52, V.sl rPitch y119.snd.fst), (53, V.int i64 (↑(List.length y119.snd.fst) : Int)), (54, V.int i64 n120)], hp := [(0, Ob.var [V.int i64 n121, V.nilsl, V.nilsl, V.int i64 n122, V.int i64 n123, V.int i64 n124, V.int i64 n125, V.nilsl, V.str s126]), (1, Ob.var [V.int i64 n127, V.own 4, V.nilsl, V.int i64 n128, V.int i64 n129, V.int i64 n130, V.int i64 n131, V.own 5, V.str s132]), (2, Ob.map rPitch true rB false e133), (3, Ob.var [V.int i64 x134.fst, V.sl rPitch x134.snd.fst, V.sl rB x134.snd.snd.fst, V.int i64 x134.snd.snd.snd.fst, V.int i64 x134.snd.snd.snd.snd.fst, V.int i64 x134.snd.snd.snd.snd.snd.fst, V.int i64 x134.snd.snd.snd.snd.snd.snd.fst, V.sl rI x134.snd.snd.snd.snd.snd.snd.snd.fst, V.str x134.snd.snd.snd.snd.snd.snd.snd.snd]), (4, Ob.arr rPitch l135 false), (5, Ob.arr rI l136 false)], nx := 6 }
def f10s8 (l85 : List Pt) (n137 n138 n139 n140 n141 n142 : Int) (s143 : List UInt8) (n144 n145 n146 n147 n148 : Int) (l149 : List Int) (s150 : List UInt8) (e151 : List (Pt × Bool)) (l152 : List Pt) : St := { fr := [(2, V.ref 0 0 0 0), (4, V.ref 1 0 0 0), (5, V.map 2), (98, V.own 3), (99, V.int i64 (↑(arL encP («Sort».sort ltR (liftR l85))).length : Int)), (100, V.int i64 n137)], hp := [(0, Ob.var [V.int i64 n138, V.nilsl, V.nilsl, V.int i64 n139, V.int i64 n140, V.int i64 n141, V.int i64 n142, V.nilsl, V.str s143]), (1, Ob.var [V.int i64 n144, V.own 3, V.nilsl, V.int i64 n145, V.int i64 n146, V.int i64 n147, V.int i64 n148, V.sl rI l149, V.str s150]), (2, Ob.map rPitch true rB false e151), (3, Ob.arr rPitch l152 false)], nx := 4 }
def f10s9 (l : List Ev) (n53 : Int) (y87 : Ev) (n154 n155 n156 n157 n158 n159 : Int) (s160 : List UInt8) (n161 n162 n163 n164 n165 : Int) (s166 : List UInt8) (e167 : List (Pt × Bool)) (x168 : Ev) (l169 : List Pt) (l170 : List Int) : St := { fr := [(2, V.ref 0 0 0 0), (4, V.ref 1 0 0 0), (5, V.map 2), (7, V.ref 3 0 0 0), (27, V.sl rEvent l), (28, V.int i64 (↑l.length : Int)), (29, V.int i64 n53), (52, V.sl rPitch y87.snd.fst), (53, V.int i64 (↑(List.length y87.snd.fst) : Int)), (54, V.int i64 n154)], hp := [(0, Ob.var [V.int i64 n155, V.nilsl, V.nilsl, V.int i64 n156, V.int i64 n157, V.int i64 n158, V.int i64 n159, V.nilsl, V.str s160]), (1, Ob.var [V.int i64 n161, V.own 4, V.nilsl, V.int i64 n162, V.int i64 n163, V.int i64 n164, V.int i64 n165, V.own 5, V.str s166]), (2, Ob.map rPitch true rB false e167), (3, Ob.var [V.int i64 x168.fst, V.sl rPitch x168.snd.fst, V.sl rB x168.snd.snd.fst, V.int i64 x168.snd.snd.snd.fst, V.int i64 x168.snd.snd.snd.snd.fst, V.int i64 x168.snd.snd.snd.snd.snd.fst, V.int i64 x168.snd.snd.snd.snd.snd.snd.fst, V.sl rI x168.snd.snd.snd.snd.snd.snd.snd.fst, V.str x168.snd.snd.snd.snd.snd.snd.snd.snd]), (4, Ob.arr rPitch l169 false), (5, Ob.arr rI l170 false)], nx := 6 }
def f10s10 (l85 : List Pt) (n178 n179 n180 n181 n182 n183 : Int) (s184 : List UInt8) (n185 n186 n187 n188 n189 : Int) (l190 : List Int) (s191 : List UInt8) (e192 : List (Pt × Bool)) (l193 : List Pt) (l194 : List Bool) : St := { fr := [(2, V.ref 0 0 0 0), (4, V.ref 1 0 0 0), (5, V.map 2), (98, V.own 3), (99, V.int i64 (↑(arL encP («Sort».sort ltR (liftR l85))).length : Int)), (100, V.int i64 n178)], hp := [(0, Ob.var [V.int i64 n179, V.nilsl, V.nilsl, V.int i64 n180, V.int i64 n181, V.int i64 n182, V.int i64 n183, V.nilsl, V.str s184]), (1, Ob.var [V.int i64 n185, V.own 3, V.own 4, V.int i64 n186, V.int i64 n187, V.int i64 n188, V.int i64 n189, V.sl rI l190, V.str s191]), (2, Ob.map rPitch true rB false e192), (3, Ob.arr rPitch l193 false), (4, Ob.arr rB l194 false)], nx := 5 }
noncomputable abbrev k10 {Q : Type} (k : V → List Ob → Option Q) := vend (E21 8) 0 (fb Tryd.f10).1.results.toList false k
theorem f10_go (l : List Ev) :
 vseg (E21 8) f10cuts 0 J (k10 kk) 100000 true [.code (fb Tryd.f10).2] (start ([V.sl rEvent l]) ([])) =
 (bif decide ((↑l.length : Int) = (0 : Int)) then
 kk (V.tuple [V.agg [V.int i64 (0 : Int), V.nilsl, V.nilsl, V.int i64 (0 : Int), V.int i64 (0 : Int), V.int i64 (0 : Int), V.int i64 (0 : Int), V.nilsl, V.str []], V.int i64 (2 : Int)]) ([])
 else (bif oksE l then
 (bif decide ((0 : Int) ≤ firstBad l (0 : Nat)) then
 kk (V.tuple [V.agg [V.int i64 (0 : Int), V.nilsl, V.nilsl, V.int i64 (0 : Int), V.int i64 (0 : Int), V.int i64 (0 : Int), V.int i64 (0 : Int), V.nilsl, V.str []], V.int i64 (60 : Int)]) ([])
 else (match idx l (0 : Int) with
 | some y1 => J f10t8 (f10s0 l (0 : Int) (0 : Int) (0 : Int) (0 : Int) (0 : Int) (0 : Int) ([]) (0 : Int) (y1.snd.snd.snd.fst) (y1.snd.snd.snd.snd.fst) (y1.snd.snd.snd.snd.snd.fst) (y1.snd.snd.snd.snd.snd.snd.fst) ([]) ([]))
 | none => none))
 else none)) := by kernel_rfl
theorem f10_0 (l : List Ev) (n2 n3 n4 n5 n6 n7 : Int) (s8 : List UInt8) (n9 n10 n11 n12 n13 : Int) (s14 : List UInt8) (e15 : List (Pt × Bool)) :
 vseg (E21 8) f10cuts 0 J (k10 kk) 100000 true f10t8 (f10s0 l n2 n3 n4 n5 n6 n7 s8 n9 n10 n11 n12 n13 s14 e15) =
 (bif decide (n2 < (↑l.length : Int)) then
 (match idx l n2 with
 | some y16 => (bif !(decide (y16.snd.snd.snd.fst = n10) && (decide (y16.snd.snd.snd.snd.fst = n11) && (decide (y16.snd.snd.snd.snd.snd.fst = n12) && decide (y16.snd.snd.snd.snd.snd.snd.fst = n13)))) then
 kk (V.tuple [V.agg [V.int i64 (0 : Int), V.nilsl, V.nilsl, V.int i64 (0 : Int), V.int i64 (0 : Int), V.int i64 (0 : Int), V.int i64 (0 : Int), V.nilsl, V.str []], V.int i64 (2 : Int)]) ([])
 else (bif s14 == ([] : List UInt8) then
 (bif decide (List.length y16.snd.snd.snd.snd.snd.snd.snd.fst * 8 ≤ bytesMost) then
 J f10t16 (f10s1 l n2 y16 (0 : Int) n3 n4 n5 n6 n7 s8 n9 n10 n11 n12 n13 (y16.snd.snd.snd.snd.snd.snd.snd.snd) e15 y16 (y16.snd.snd.snd.snd.snd.snd.snd.fst))
 else none)
 else (bif decide (List.length y16.snd.snd.snd.snd.snd.snd.snd.fst * 8 ≤ bytesMost) then
 J f10t16 (f10s1 l n2 y16 (0 : Int) n3 n4 n5 n6 n7 s8 n9 n10 n11 n12 n13 s14 e15 y16 (y16.snd.snd.snd.snd.snd.snd.snd.fst))
 else none)))
 | none => none)
 else none) := by kernel_rfl
theorem f10_3 (l : List Ev) (n53 n54 n55 n56 n57 n58 : Int) (s59 : List UInt8) (n60 n61 n62 n63 n64 : Int) (s65 : List UInt8) (e66 : List (Pt × Bool)) (l67 : List Int) :
 vseg (E21 8) f10cuts 0 J (k10 kk) 100000 true f10t8 (f10s3 l n53 n54 n55 n56 n57 n58 s59 n60 n61 n62 n63 n64 s65 e66 l67) =
 (bif decide (n53 < (↑l.length : Int)) then
 (match idx l n53 with
 | some y87 => (bif !(decide (y87.snd.snd.snd.fst = n61) && (decide (y87.snd.snd.snd.snd.fst = n62) && (decide (y87.snd.snd.snd.snd.snd.fst = n63) && decide (y87.snd.snd.snd.snd.snd.snd.fst = n64)))) then
 kk (V.tuple [V.agg [V.int i64 (0 : Int), V.nilsl, V.nilsl, V.int i64 (0 : Int), V.int i64 (0 : Int), V.int i64 (0 : Int), V.int i64 (0 : Int), V.nilsl, V.str []], V.int i64 (2 : Int)]) ([])
 else (bif s65 == ([] : List UInt8) then
 (bif decide ((l67.length + List.length y87.snd.snd.snd.snd.snd.snd.snd.fst) * 8 ≤ bytesMost) then
 J f10t16 (f10s5 l n53 y87 (0 : Int) n54 n55 n56 n57 n58 s59 n60 n61 n62 n63 n64 (y87.snd.snd.snd.snd.snd.snd.snd.snd) e66 y87 (l67 ++ y87.snd.snd.snd.snd.snd.snd.snd.fst))
 else none)
 else (bif decide ((l67.length + List.length y87.snd.snd.snd.snd.snd.snd.snd.fst) * 8 ≤ bytesMost) then
 J f10t16 (f10s5 l n53 y87 (0 : Int) n54 n55 n56 n57 n58 s59 n60 n61 n62 n63 n64 s65 e66 y87 (l67 ++ y87.snd.snd.snd.snd.snd.snd.snd.fst))
 else none)))
 | none => none)
 else (bif ckI l67 && decide (l67.length < (256 : Nat)) then
 (bif decide ((arL encI («Sort».sort «Sort».ltInt (liftI l67))).length < (1000000000 : Nat)) then
 J f10t28 (f10s6 (0 : Int) n54 n55 n56 n57 n58 s59 n60 n61 n62 n63 n64 (compI (arL encI («Sort».sort «Sort».ltInt (liftI l67)))) s65 e66)
 else none)
 else none)) := by kernel_rfl
theorem f10_4 (l : List Ev) (n71 n72 n73 n74 n75 n76 : Int) (s77 : List UInt8) (n78 n79 n80 n81 n82 : Int) (s83 : List UInt8) (e84 : List (Pt × Bool)) (l85 : List Pt) (l86 : List Int) :
 vseg (E21 8) f10cuts 0 J (k10 kk) 100000 true f10t8 (f10s4 l n71 n72 n73 n74 n75 n76 s77 n78 n79 n80 n81 n82 s83 e84 l85 l86) =
 (bif decide (n71 < (↑l.length : Int)) then
 (match idx l n71 with
 | some y119 => (bif !(decide (y119.snd.snd.snd.fst = n79) && (decide (y119.snd.snd.snd.snd.fst = n80) && (decide (y119.snd.snd.snd.snd.snd.fst = n81) && decide (y119.snd.snd.snd.snd.snd.snd.fst = n82)))) then
 kk (V.tuple [V.agg [V.int i64 (0 : Int), V.nilsl, V.nilsl, V.int i64 (0 : Int), V.int i64 (0 : Int), V.int i64 (0 : Int), V.int i64 (0 : Int), V.nilsl, V.str []], V.int i64 (2 : Int)]) ([])
 else (bif s83 == ([] : List UInt8) then
 (bif decide ((l86.length + List.length y119.snd.snd.snd.snd.snd.snd.snd.fst) * 8 ≤ bytesMost) then
 J f10t16 (f10s7 l n71 y119 (0 : Int) n72 n73 n74 n75 n76 s77 n78 n79 n80 n81 n82 (y119.snd.snd.snd.snd.snd.snd.snd.snd) e84 y119 l85 (l86 ++ y119.snd.snd.snd.snd.snd.snd.snd.fst))
 else none)
 else (bif decide ((l86.length + List.length y119.snd.snd.snd.snd.snd.snd.snd.fst) * 8 ≤ bytesMost) then
 J f10t16 (f10s7 l n71 y119 (0 : Int) n72 n73 n74 n75 n76 s77 n78 n79 n80 n81 n82 s83 e84 y119 l85 (l86 ++ y119.snd.snd.snd.snd.snd.snd.snd.fst))
 else none)))
 | none => none)
 else (bif ckI l86 && decide (l86.length < (256 : Nat)) then
 (bif decide ((arL encI («Sort».sort «Sort».ltInt (liftI l86))).length < (1000000000 : Nat)) then
 (bif ckP l85 && decide (l85.length < (256 : Nat)) then
 J f10t28 (f10s8 l85 (0 : Int) n72 n73 n74 n75 n76 s77 n78 n79 n80 n81 n82 (compI (arL encI («Sort».sort «Sort».ltInt (liftI l86)))) s83 e84 (arL encP («Sort».sort ltR (liftR l85))))
 else none)
 else none)
 else none)) := by kernel_rfl
theorem f10_5 (l : List Ev) (n53 : Int) (y87 : Ev) (n88 n89 n90 n91 n92 n93 : Int) (s94 : List UInt8) (n95 n96 n97 n98 n99 : Int) (s100 : List UInt8) (e101 : List (Pt × Bool)) (x102 : Ev) (l103 : List Int) :
 vseg (E21 8) f10cuts 0 J (k10 kk) 100000 true f10t16 (f10s5 l n53 y87 n88 n89 n90 n91 n92 n93 s94 n95 n96 n97 n98 n99 s100 e101 x102 l103) =
 (bif decide (n88 < (↑(List.length y87.snd.fst) : Int)) then
 (match idx y87.snd.fst n88 with
 | some y153 => (bif !(findKey rPitch.beq y153 e101).isSome then
 (bif (findKey rPitch.beq y153 e101).getD false then
 J f10t16 (f10s9 l n53 y87 (i64.wrap (n88 + (1 : Int))) n89 n90 n91 n92 n93 s94 n95 n96 n97 n98 n99 s100 (setKey rPitch.beq y153 true e101) x102 ([y153]) l103)
 else (match idx x102.snd.snd.fst n88 with
 | some y171 => J f10t16 (f10s9 l n53 y87 (i64.wrap (n88 + (1 : Int))) n89 n90 n91 n92 n93 s94 n95 n96 n97 n98 n99 s100 (setKey rPitch.beq y153 y171 e101) x102 ([y153]) l103)
 | none => none))
 else (bif (findKey rPitch.beq y153 e101).getD false then
 J f10t16 (f10s5 l n53 y87 (i64.wrap (n88 + (1 : Int))) n89 n90 n91 n92 n93 s94 n95 n96 n97 n98 n99 s100 (setKey rPitch.beq y153 true e101) x102 l103)
 else (match idx x102.snd.snd.fst n88 with
 | some y172 => J f10t16 (f10s5 l n53 y87 (i64.wrap (n88 + (1 : Int))) n89 n90 n91 n92 n93 s94 n95 n96 n97 n98 n99 s100 (setKey rPitch.beq y153 y172 e101) x102 l103)
 | none => none)))
 | none => none)
 else J f10t8 (f10s3 l (i64.wrap (n53 + (1 : Int))) n89 n90 n91 n92 n93 s94 n95 n96 n97 n98 n99 s100 e101 l103)) := by kernel_rfl
theorem f10_6 (n104 n105 n106 n107 n108 n109 : Int) (s110 : List UInt8) (n111 n112 n113 n114 n115 : Int) (l116 : List Int) (s117 : List UInt8) (e118 : List (Pt × Bool)) :
 vseg (E21 8) f10cuts 0 J (k10 kk) 100000 true f10t28 (f10s6 n104 n105 n106 n107 n108 n109 s110 n111 n112 n113 n114 n115 l116 s117 e118) =
 (bif decide (n104 < (0 : Int)) then
 none
 else (bif Ev.okm (n111, [], [], n112, n113, n114, n115, l116, s117) then
 (bif !Ev.right (n111, [], [], n112, n113, n114, n115, l116, s117) then
 kk (V.tuple [V.agg [V.int i64 (0 : Int), V.nilsl, V.nilsl, V.int i64 (0 : Int), V.int i64 (0 : Int), V.int i64 (0 : Int), V.int i64 (0 : Int), V.nilsl, V.str []], V.int i64 (60 : Int)]) ([])
 else kk (V.tuple [V.agg [V.int i64 n111, V.nilsl, V.nilsl, V.int i64 n112, V.int i64 n113, V.int i64 n114, V.int i64 n115, V.sl rI l116, V.str s117], V.int i64 (0 : Int)]) ([]))
 else none)) := by kernel_rfl
theorem f10_8 (l85 : List Pt) (n137 n138 n139 n140 n141 n142 : Int) (s143 : List UInt8) (n144 n145 n146 n147 n148 : Int) (l149 : List Int) (s150 : List UInt8) (e151 : List (Pt × Bool)) (l152 : List Pt) :
 vseg (E21 8) f10cuts 0 J (k10 kk) 100000 true f10t28 (f10s8 l85 n137 n138 n139 n140 n141 n142 s143 n144 n145 n146 n147 n148 l149 s150 e151 l152) =
 (bif decide (n137 < (↑(arL encP («Sort».sort ltR (liftR l85))).length : Int)) then
 (match idx l152 n137 with
 | some _ => (match l152[n137.toNat]? with
 | some y177 => J f10t28 (f10s10 l85 (i64.wrap (n137 + (1 : Int))) n138 n139 n140 n141 n142 s143 (1 : Int) n145 n146 n147 n148 l149 s150 e151 l152 ([(findKey rPitch.beq y177 e151).getD false]))
 | none => none)
 | none => none)
 else (bif Ev.okm (n144, l152, [], n145, n146, n147, n148, l149, s150) then
 (bif !Ev.right (n144, l152, [], n145, n146, n147, n148, l149, s150) then
 kk (V.tuple [V.agg [V.int i64 (0 : Int), V.nilsl, V.nilsl, V.int i64 (0 : Int), V.int i64 (0 : Int), V.int i64 (0 : Int), V.int i64 (0 : Int), V.nilsl, V.str []], V.int i64 (60 : Int)]) ([])
 else kk (V.tuple [V.agg [V.int i64 n144, V.sl rPitch l152, V.nilsl, V.int i64 n145, V.int i64 n146, V.int i64 n147, V.int i64 n148, V.sl rI l149, V.str s150], V.int i64 (0 : Int)]) ([]))
 else none)) := by kernel_rfl
theorem f10_9 (l : List Ev) (n53 : Int) (y87 : Ev) (n154 n155 n156 n157 n158 n159 : Int) (s160 : List UInt8) (n161 n162 n163 n164 n165 : Int) (s166 : List UInt8) (e167 : List (Pt × Bool)) (x168 : Ev) (l169 : List Pt) (l170 : List Int) :
 vseg (E21 8) f10cuts 0 J (k10 kk) 100000 true f10t16 (f10s9 l n53 y87 n154 n155 n156 n157 n158 n159 s160 n161 n162 n163 n164 n165 s166 e167 x168 l169 l170) =
 (bif decide (n154 < (↑(List.length y87.snd.fst) : Int)) then
 (match idx y87.snd.fst n154 with
 | some y195 => (bif !(findKey rPitch.beq y195 e167).isSome then
 (bif decide ((l169.length + 1) * 24 ≤ bytesMost) then
 (bif (findKey rPitch.beq y195 e167).getD false then
 J f10t16 (f10s9 l n53 y87 (i64.wrap (n154 + (1 : Int))) n155 n156 n157 n158 n159 s160 n161 n162 n163 n164 n165 s166 (setKey rPitch.beq y195 true e167) x168 (l169 ++ [y195]) l170)
 else (match idx x168.snd.snd.fst n154 with
 | some y196 => J f10t16 (f10s9 l n53 y87 (i64.wrap (n154 + (1 : Int))) n155 n156 n157 n158 n159 s160 n161 n162 n163 n164 n165 s166 (setKey rPitch.beq y195 y196 e167) x168 (l169 ++ [y195]) l170)
 | none => none))
 else none)
 else (bif (findKey rPitch.beq y195 e167).getD false then
 J f10t16 (f10s9 l n53 y87 (i64.wrap (n154 + (1 : Int))) n155 n156 n157 n158 n159 s160 n161 n162 n163 n164 n165 s166 (setKey rPitch.beq y195 true e167) x168 l169 l170)
 else (match idx x168.snd.snd.fst n154 with
 | some y197 => J f10t16 (f10s9 l n53 y87 (i64.wrap (n154 + (1 : Int))) n155 n156 n157 n158 n159 s160 n161 n162 n163 n164 n165 s166 (setKey rPitch.beq y195 y197 e167) x168 l169 l170)
 | none => none)))
 | none => none)
 else J f10t8 (f10s4 l (i64.wrap (n53 + (1 : Int))) n155 n156 n157 n158 n159 s160 n161 n162 n163 n164 n165 s166 e167 l169 l170)) := by kernel_rfl
theorem f10_10 (l85 : List Pt) (n178 n179 n180 n181 n182 n183 : Int) (s184 : List UInt8) (n185 n186 n187 n188 n189 : Int) (l190 : List Int) (s191 : List UInt8) (e192 : List (Pt × Bool)) (l193 : List Pt) (l194 : List Bool) :
 vseg (E21 8) f10cuts 0 J (k10 kk) 100000 true f10t28 (f10s10 l85 n178 n179 n180 n181 n182 n183 s184 n185 n186 n187 n188 n189 l190 s191 e192 l193 l194) =
 (bif decide (n178 < (↑(arL encP («Sort».sort ltR (liftR l85))).length : Int)) then
 (match idx l193 n178 with
 | some _ => (match l193[n178.toNat]? with
 | some y199 => (bif decide ((l194.length + 1) * 1 ≤ bytesMost) then
 J f10t28 (f10s10 l85 (i64.wrap (n178 + (1 : Int))) n179 n180 n181 n182 n183 s184 (1 : Int) n186 n187 n188 n189 l190 s191 e192 l193 (l194 ++ [(findKey rPitch.beq y199 e192).getD false]))
 else none)
 | none => none)
 | none => none)
 else (bif Ev.okm (n185, l193, l194, n186, n187, n188, n189, l190, s191) then
 (bif !Ev.right (n185, l193, l194, n186, n187, n188, n189, l190, s191) then
 kk (V.tuple [V.agg [V.int i64 (0 : Int), V.nilsl, V.nilsl, V.int i64 (0 : Int), V.int i64 (0 : Int), V.int i64 (0 : Int), V.int i64 (0 : Int), V.nilsl, V.str []], V.int i64 (60 : Int)]) ([])
 else kk (V.tuple [V.agg [V.int i64 n185, V.sl rPitch l193, V.sl rB l194, V.int i64 n186, V.int i64 n187, V.int i64 n188, V.int i64 n189, V.sl rI l190, V.str s191], V.int i64 (0 : Int)]) ([]))
 else none)) := by kernel_rfl
noncomputable abbrev f11cuts : Cuts := look [(4, [0, 2, 4]), (10, [0, 2, 5, 6]), (17, [0, 2, 5, 6, 7]), (22, [0, 2, 5, 8]), (26, [0, 2, 5, 8, 9, 10])]
noncomputable abbrev k11 {Q : Type} (k : V → List Ob → Option Q) := vend (E21 8) 0 (fb Tryd.f11).1.results.toList false k
end Vm.S6b
open Go Go.Proofs
namespace Vm.S6b
def Go11 (kk : V → List Ob → Option (V × List Ob)) (t : List Item) (s : St) (r : Ev × Int) : Prop := ∃ N v, canon2 true rEvent v = some (r.1, .int .i64 r.2) ∧ vrun (E21 8) f11cuts 0 100000 (k11 kk) N t s = kk v []
theorem Go11.step {kk : V → List Ob → Option (V × List Ob)} {t t' : List Item} {s s' : St} {r : Ev × Int} (h : Go11 kk t' s' r) (e : ∀ N, vrun (E21 8) f11cuts 0 100000 (k11 kk) (N + 1) t s = vrun (E21 8) f11cuts 0 100000 (k11 kk) N t' s') : Go11 kk t s r := by
 obtain ⟨N, v, h1, h2⟩ := h
 exact ⟨N + 1, v, h1, (e N).trans h2⟩
theorem canon_ev (k : Int) (ps : List Pt) (ts : List Bool) (a b c e : Int) (ms : List Int) (w : List UInt8) (n : Int) : canon2 true rEvent (.tuple [.agg [.int .i64 k, .sl rPitch ps, .sl rB ts, .int .i64 a, .int .i64 b, .int .i64 c, .int .i64 e, .sl rI ms, .str w], .int .i64 n]) = some (((k, ps, ts, a, b, c, e, ms, w) : Ev), .int .i64 n) := rfl
theorem canon_ev1 (k : Int) (a b c e : Int) (ms : List Int) (w : List UInt8) (n : Int) : canon2 true rEvent (.tuple [.agg [.int .i64 k, .nilsl, .nilsl, .int .i64 a, .int .i64 b, .int .i64 c, .int .i64 e, .sl rI ms, .str w], .int .i64 n]) = some (((k, [], [], a, b, c, e, ms, w) : Ev), .int .i64 n) := rfl
theorem okm_of {k : Int} {ps : List Pt} {ts : List Bool} {a b c e : Int} {ms : List Int} {w : List UInt8} (h : ms.length ≤ 1000) : Ev.okm (k, ps, ts, a, b, c, e, ms, w) = true := by
 unfold Ev.okm
 exact decide_eq_true (show ms.length < 4611686018427387904 by omega)
theorem valEq (y : Ev) (a b c e : Int) : (!(decide (y.2.2.2.1 = a) && (decide (y.2.2.2.2.1 = b) && (decide (y.2.2.2.2.2.1 = c) && decide (y.2.2.2.2.2.2.1 = e))))) = !decide (y.val = (a, b, c, e)) := by
 congr 1
 simp only [Ev.val, Prod.mk.injEq, ← Bool.decide_and]
theorem idxL {l : List Ev} {i : Nat} (h : i < l.length) : idx l (i : Int) = some l[i] := by rw [idx_nat, List.getElem?_eq_getElem h]
section
variable (kk : V → List Ob → Option (V × List Ob)) (l : List Ev) (ho : l.length ≤ 100) (hm : ∀ e ∈ l, Ev.okm e = true)
include ho hm
variable (hr : ∀ e ∈ l, e.sound)
include hr
end
def okC (l : List Ev) : Bool := oksE l && decide (l.length ≤ 100)
end Vm.S6b
open Go Go.Proofs
namespace Vm.S6b
noncomputable abbrev R10 (kk : V → List Ob → Option (V × List Ob)) (N : Nat) (t : List Item) (s : St) := vrun (E21 8) f10cuts 0 100000 (k10 kk) N t s
def Go10 (kk : V → List Ob → Option (V × List Ob)) (t : List Item) (s : St) (r : Ev × Int) : Prop := ∃ N v, canon2 true rEvent v = some (r.1, .int .i64 r.2) ∧ R10 kk N t s = kk v []
theorem Go10.step {kk : V → List Ob → Option (V × List Ob)} {t t' : List Item} {s s' : St} {r : Ev × Int} (h : Go10 kk t' s' r) (e : ∀ N, R10 kk (N + 1) t s = R10 kk N t' s') : Go10 kk t s r := by
 obtain ⟨N, v, h1, h2⟩ := h
 exact ⟨N + 1, v, h1, (e N).trans h2⟩
theorem canon_ev3 (k : Int) (ps : List Pt) (a b c e : Int) (ms : List Int) (w : List UInt8) (n : Int) : canon2 true rEvent (.tuple [.agg [.int .i64 k, .sl rPitch ps, .nilsl, .int .i64 a, .int .i64 b, .int .i64 c, .int .i64 e, .sl rI ms, .str w], .int .i64 n]) = some (((k, ps, [], a, b, c, e, ms, w) : Ev), .int .i64 n) := rfl
theorem pick10 {α : Type} (f : Option Bool) (t : Bool) (F : List Pt → Bool → Option α) (acc : List Pt) (p : Pt) :
  (bif !f.isSome then (bif true then (bif f.getD false then F (acc ++ [p]) true else F (acc ++ [p]) t) else none) else (bif f.getD false then F acc true else F acc t)) = F (if f.isSome = true then acc else acc ++ [p]) (f.getD false || t) := by
 cases f with
 | none => cases t <;> rfl
 | some b => cases b <;> cases t <;> rfl
section
variable (kk : V → List Ob → Option (V × List Ob))
theorem f10_t (acc : List Pt) (es : List (Pt × Bool)) (a b c e : Int) (ms : List Int) (w : List UInt8) (hms : ms.length ≤ 1000) (P : List Pt) (hP : P = arL encP (Go.Sort.sort ltR (liftR acc))) (hP2 : P.length ≤ 1000) : ∀ (d j : Nat) (ts : List Bool), j + d = P.length → ts.length ≤ j →
  Go10 kk f10t28 (f10s10 acc j 0 0 0 0 0 [] 1 a b c e ms w es P ts) (finE (1, P, ts ++ (P.drop j).map (fun p => (findKey beqP p es).getD false), a, b, c, e, ms, w)) := by
 intro d
 induction d with
 | zero =>
   intro j ts hj ht
   rw [List.drop_eq_nil_of_le (by omega), List.map_nil, List.append_nil]
   unfold finE
   cases hr : Ev.right (1, P, ts, a, b, c, e, ms, w) with
   | true =>
     rw [if_pos rfl]
     refine ⟨1, _, canon_ev .., ?_⟩
     show vrun _ _ _ _ _ _ _ _ = _
     rw [vrun_succ, f10_10, ← hP, bif_neg (by exact decide_eq_false (by omega)), okm_of hms, cond_true, hr]
     rfl
   | false =>
     rw [if_neg (by decide)]
     refine ⟨1, _, canon_zEv 60, ?_⟩
     show vrun _ _ _ _ _ _ _ _ = _
     rw [vrun_succ, f10_10, ← hP, bif_neg (by exact decide_eq_false (by omega)), okm_of hms, cond_true, hr]
     rfl
 | succ d ih =>
   intro j ts hj ht
   have hlt : j < P.length := by omega
   rw [List.drop_eq_getElem_cons hlt, List.map_cons]
   have := ih (j + 1) (ts ++ [(findKey beqP P[j] es).getD false]) (by omega) (by simp; omega)
   rw [List.append_assoc] at this
   refine this.step fun N => ?_
   show vrun _ _ _ _ _ _ _ _ = _
   rw [vrun_succ, f10_10, ← hP, bif_pos (by exact decide_eq_true (by omega)), idx_nat, Int.toNat_natCast, List.getElem?_eq_getElem hlt]
   dsimp only
   rw [bif_pos (by exact decide_eq_true (by simp [bytesMost]; omega)), wrap_succ (by omega)]
   rfl
theorem f10_t8 (acc : List Pt) (es : List (Pt × Bool)) (a b c e : Int) (ms : List Int) (w : List UInt8) (hms : ms.length ≤ 1000) (hP2 : (sortR acc).length ≤ 1000) :
  Go10 kk f10t28 (f10s8 acc 0 0 0 0 0 0 [] 0 a b c e ms w es (sortR acc)) (finE (if sortR acc = [] then 0 else 1, sortR acc, (sortR acc).map (fun p => (findKey beqP p es).getD false), a, b, c, e, ms, w)) := by
 obtain ⟨P, hP⟩ : ∃ P, sortR acc = P := ⟨_, rfl⟩
 rw [hP] at hP2 ⊢
 have hP' : P = arL encP (Go.Sort.sort ltR (liftR acc)) := hP.symm
 by_cases hz : P = []
 ·have hz' : P.length = 0 := by rw [hz]; rfl
  rw [if_pos hz]
  unfold finE
  have em : P.map (fun p => (findKey beqP p es).getD false) = [] := by rw [hz]; rfl
  rw [em]
  cases hr : Ev.right (0, P, [], a, b, c, e, ms, w) with
  | true =>
    rw [if_pos rfl]
    refine ⟨1, _, canon_ev3 .., ?_⟩
    show vrun _ _ _ _ _ _ _ _ = _
    rw [vrun_succ, f10_8, ← hP', bif_neg (by exact decide_eq_false (by omega)), okm_of hms, cond_true, hr]
    rfl
  | false =>
    rw [if_neg (by decide)]
    refine ⟨1, _, canon_zEv 60, ?_⟩
    show vrun _ _ _ _ _ _ _ _ = _
    rw [vrun_succ, f10_8, ← hP', bif_neg (by exact decide_eq_false (by omega)), okm_of hms, cond_true, hr]
    rfl
 ·rw [if_neg hz]
  have hlt : 0 < P.length := List.length_pos_iff.2 hz
  have e1 : P = P[0] :: P.drop 1 := by
   have := List.drop_eq_getElem_cons hlt
   rwa [List.drop_zero] at this
  have := f10_t kk acc es a b c e ms w hms P hP' hP2 (P.length - 1) 1 [(findKey beqP P[0] es).getD false] (by omega) (by simp)
  have em : P.map (fun p => (findKey beqP p es).getD false) = [(findKey beqP P[0] es).getD false] ++ (P.drop 1).map (fun p => (findKey beqP p es).getD false) := by
   conv => lhs; rw [e1]
   rfl
  rw [em]
  refine this.step fun N => ?_
  show vrun _ _ _ _ _ _ _ _ = _
  rw [vrun_succ, f10_8, ← hP', bif_pos (by exact decide_eq_true (by omega)), idx_get _ (0 : Int) 0 rfl, List.getElem?_eq_getElem hlt, show ((0 : Int)).toNat = 0 from rfl, List.getElem?_eq_getElem hlt, w64 (n := 0 + 1) (by decide) (by decide)]
  rfl
theorem f10_t6 (es : List (Pt × Bool)) (a b c e : Int) (ms : List Int) (w : List UInt8) (hms : ms.length ≤ 1000) :
  Go10 kk f10t28 (f10s6 0 0 0 0 0 0 [] 0 a b c e ms w es) (finE (0, [], [], a, b, c, e, ms, w)) := by
 unfold finE
 cases hr : Ev.right (0, [], [], a, b, c, e, ms, w) with
 | true =>
   rw [if_pos rfl]
   refine ⟨1, _, canon_ev1 .., ?_⟩
   show vrun _ _ _ _ _ _ _ _ = _
   rw [vrun_succ, f10_6]
   rw [okm_of hms, cond_true, hr]
   rfl
 | false =>
   rw [if_neg (by decide)]
   refine ⟨1, _, canon_zEv 60, ?_⟩
   show vrun _ _ _ _ _ _ _ _ = _
   rw [vrun_succ, f10_6]
   rw [okm_of hms, cond_true, hr]
   rfl
variable (l : List Ev)
theorem f10_p (i : Nat) (y : Ev) (hi : i < l.length) (hl2 : l.length ≤ 100) (hlen : y.2.2.1.length = y.2.1.length) (h8 : y.2.1.length ≤ 8) (r : Ev × Int) (a b c e : Int) (w : List UInt8) (ms : List Int) : ∀ (d j : Nat) (acc : List Pt) (es : List (Pt × Bool)), j + d = y.2.1.length → acc.length + d ≤ 1000 →
  Go10 kk f10t8 (f10s4 l ((i + 1 : Nat) : Int) 0 0 0 0 0 [] 0 a b c e w (inE (y.2.1.drop j) (y.2.2.1.drop j) (acc, es)).2 (inE (y.2.1.drop j) (y.2.2.1.drop j) (acc, es)).1 ms) r →
  Go10 kk f10t16 (f10s9 l i y j 0 0 0 0 0 [] 0 a b c e w es y acc ms) r := by
 intro d
 induction d with
 | zero =>
   intro j acc es hj h1 hg
   rw [List.drop_eq_nil_of_le (by omega)] at hg
   refine hg.step fun N => ?_
   show vrun _ _ _ _ _ _ _ _ = _
   rw [vrun_succ, f10_9, bif_neg (by exact decide_eq_false (by omega)), wrap_succ (by omega)]
   rfl
 | succ d ih =>
   intro j acc es hj h1 hg
   have hlt : j < y.2.1.length := by omega
   have hlt2 : j < y.2.2.1.length := by omega
   rw [List.drop_eq_getElem_cons hlt, List.drop_eq_getElem_cons hlt2] at hg
   simp only [inE] at hg
   have hb : (if (findKey beqP y.2.1[j] es).isSome = true then acc else acc ++ [y.2.1[j]]).length + d ≤ 1000 := by
    split
    ·omega
    ·simp only [List.length_append, List.length_cons, List.length_nil]; omega
   refine (ih (j + 1) _ _ (by omega) hb hg).step fun N => ?_
   show vrun _ _ _ _ _ _ _ _ = _
   rw [vrun_succ, f10_9, bif_pos (by exact decide_eq_true (by omega)), idx_nat, idx_nat, List.getElem?_eq_getElem hlt, List.getElem?_eq_getElem hlt2, wrap_succ (by omega)]
   dsimp only
   have b1 : decide ((acc.length + 1) * 24 ≤ bytesMost) = true := decide_eq_true (by simp [bytesMost]; omega)
   rw [b1]
   exact pick10 (findKey beqP y.2.1[j] es) y.2.2.1[j] (fun acc' b' => R10 kk N f10t16 (f10s9 l i y ((j + 1 : Nat) : Int) 0 0 0 0 0 [] 0 a b c e w (setKey beqP y.2.1[j] b' es) y acc' ms)) acc y.2.1[j]
theorem f10_p0 (i : Nat) (y : Ev) (hi : i < l.length) (hl2 : l.length ≤ 100) (hlen : y.2.2.1.length = y.2.1.length) (h8 : y.2.1.length ≤ 8) (r : Ev × Int) (a b c e : Int) (w : List UInt8) (ms : List Int)
  (h0 : y.2.1 = [] → Go10 kk f10t8 (f10s3 l ((i + 1 : Nat) : Int) 0 0 0 0 0 [] 0 a b c e w [] ms) r)
  (h1 : y.2.1 ≠ [] → Go10 kk f10t8 (f10s4 l ((i + 1 : Nat) : Int) 0 0 0 0 0 [] 0 a b c e w (inE y.2.1 y.2.2.1 ([], [])).2 (inE y.2.1 y.2.2.1 ([], [])).1 ms) r) :
  Go10 kk f10t16 (f10s5 l i y 0 0 0 0 0 0 [] 0 a b c e w [] y ms) r := by
 by_cases hz : y.2.1 = []
 ·have hz' : y.2.1.length = 0 := by rw [hz]; rfl
  refine (h0 hz).step fun N => ?_
  show vrun _ _ _ _ _ _ _ _ = _
  rw [vrun_succ, f10_5, bif_neg (by exact decide_eq_false (by omega)), wrap_succ (by omega)]
 ·have hlt : 0 < y.2.1.length := List.length_pos_iff.2 hz
  have hlt2 : 0 < y.2.2.1.length := by omega
  have hg := h1 hz
  have e1 : y.2.1 = y.2.1[0] :: y.2.1.drop 1 := by
   have := List.drop_eq_getElem_cons hlt
   rwa [List.drop_zero] at this
  have e2 : y.2.2.1 = y.2.2.1[0] :: y.2.2.1.drop 1 := by
   have := List.drop_eq_getElem_cons hlt2
   rwa [List.drop_zero] at this
  have ep : inE y.2.1 y.2.2.1 ([], []) = inE (y.2.1.drop 1) (y.2.2.1.drop 1) ([y.2.1[0]], [(y.2.1[0], y.2.2.1[0])]) := by
   conv => lhs; rw [e1, e2]
   rfl
  rw [ep] at hg
  refine (f10_p kk l i y hi hl2 hlen h8 r a b c e w ms (y.2.1.length - 1) 1 [y.2.1[0]] [(y.2.1[0], y.2.2.1[0])] (by omega) (by simp; omega) hg).step fun N => ?_
  show vrun _ _ _ _ _ _ _ _ = _
  rw [vrun_succ, f10_5, bif_pos (by exact decide_eq_true (by omega)), idx_get _ (0 : Int) 0 rfl, idx_get _ (0 : Int) 0 rfl, List.getElem?_eq_getElem hlt, List.getElem?_eq_getElem hlt2, w64 (n := 0 + 1) (by decide) (by decide)]
  rfl
theorem sortR_len (acc : List Pt) (h : ckP acc = true) : (sortR acc).length = acc.length := (sortR_perm (List.all_eq_true.1 h)).length_eq
theorem ci_len (ms : List Int) : (compI (sortI ms)).length ≤ ms.length := Nat.le_trans (compI_len _) (by rw [(sortI_perm ms).length_eq]; exact Nat.le_refl _)
theorem inE_right : ∀ (ps : List Pt) (ts : List Bool) (r : List Pt × List (Pt × Bool)), ckP ps = true → ckP r.1 = true → ckP (inE ps ts r).1 = true
 | [], ts, r, _, h => by simpa [inE] using h
 | p :: ps, [], r, _, h => by simpa [inE] using h
 | p :: ps, t :: ts, r, hp, h => by
   simp only [ckP, List.all_cons, Bool.and_eq_true] at hp
   simp only [inE]
   refine inE_right ps ts _ hp.2 ?_
   simp only
   split
   ·exact h
   ·unfold ckP at *
    rw [List.all_append, h]
    simp [hp.1]
variable (hl : l.length ≤ 30) (hr : ∀ e ∈ l, e.sound)
include hl hr
theorem f10_e (a b c e : Int) : ∀ (d i : Nat) (acc : List Pt) (es : List (Pt × Bool)) (ms : List Int) (w : List UInt8), i + d = l.length → acc.length ≤ 8 * i → ms.length ≤ 4 * i → ckP acc = true →
  Go10 kk f10t8 (f10s4 l i 0 0 0 0 0 [] 0 a b c e w es acc ms) (proC (a, b, c, e) (goP (a, b, c, e) (l.drop i) ⟨acc, es, ms, w⟩)) := by
 intro d
 induction d with
 | zero =>
   intro i acc es ms w hi h1 h2 hck
   rw [List.drop_eq_nil_of_le (by omega)]
   have hc := ci_len ms
   have hs := sortR_len acc hck
   have key := f10_t8 kk acc es a b c e (compI (sortI ms)) w (by omega) (by omega)
   refine key.step fun N => ?_
   show vrun _ _ _ _ _ _ _ _ = _
   rw [vrun_succ, f10_4, bif_neg (by exact decide_eq_false (by omega))]
   have es1 : arL encI (Go.Sort.sort Go.Sort.ltInt (liftI ms)) = sortI ms := by rw [arL_encI]; rfl
   have hsl : (sortI ms).length = ms.length := (sortI_perm ms).length_eq
   rw [es1, hck, show ckI ms = true from rfl, Bool.true_and, Bool.true_and, bif_pos (by exact decide_eq_true (by omega)), bif_pos (by exact decide_eq_true (by omega)), bif_pos (by exact decide_eq_true (by omega))]
   rfl
 | succ d ih =>
   intro i acc es ms w hi h1 h2 hck
   have hlt : i < l.length := by omega
   have hs := hr _ (List.getElem_mem hlt)
   have hml := marks_len hs
   rw [List.drop_eq_getElem_cons hlt]
   simp only [goP]
   by_cases hv : l[i].val = (a, b, c, e)
   ·rw [if_pos hv]
    have h8 : l[i].2.1.length ≤ 8 := hs.few
    have hle := inE_len l[i].2.1 l[i].2.2.1 (acc, es)
    have hckp : ckP l[i].2.1 = true := List.all_eq_true.2 fun p hp => hs.pr p hp
    have key : ∀ w', Go10 kk f10t16 (f10s9 l i l[i] ((0 : Nat) : Int) 0 0 0 0 0 [] 0 a b c e w' es l[i] acc (ms ++ l[i].marks)) (proC (a, b, c, e) (goP (a, b, c, e) (l.drop (i + 1)) ⟨(inE l[i].pitches l[i].ties (acc, es)).1, (inE l[i].pitches l[i].ties (acc, es)).2, ms ++ l[i].marks, w'⟩)) := fun w' => by
     refine f10_p kk l i l[i] hlt (by omega) hs.len h8 _ a b c e w' _ l[i].2.1.length 0 acc es (by omega) (by omega) ?_
     exact ih (i + 1) _ _ _ w' (by omega) (by have h9 : (inE l[i].2.1 l[i].2.2.1 (acc, es)).1.length ≤ acc.length + l[i].2.1.length := hle; show (inE l[i].2.1 l[i].2.2.1 (acc, es)).1.length ≤ 8 * (i + 1); omega) (by rw [List.length_append]; omega) (inE_right _ _ _ hckp hck)
    refine (key _).step fun N => ?_
    have b1 : decide ((ms.length + List.length l[i].2.2.2.2.2.2.2.1) * 8 ≤ bytesMost) = true := decide_eq_true (by
     have : l[i].2.2.2.2.2.2.2.1.length ≤ 4 := hml
     simp [bytesMost]; omega)
    show vrun _ _ _ _ _ _ _ _ = _
    rw [vrun_succ, f10_4, bif_pos (by exact decide_eq_true (by omega)), idxL hlt]
    dsimp only
    rw [valEq, decide_eq_true hv, Bool.not_true, cond_false, b1]
    by_cases hw : w = []
    ·subst hw
     rw [if_pos rfl]
     rfl
    ·rw [if_neg hw, bif_neg (by simpa using hw)]
     rfl
   ·rw [if_neg hv]
    refine ⟨1, _, canon_zEv 2, ?_⟩
    show vrun _ _ _ _ _ _ _ _ = _
    rw [vrun_succ, f10_4, bif_pos (by exact decide_eq_true (by omega)), idxL hlt]
    dsimp only
    rw [valEq, decide_eq_false hv, Bool.not_false, cond_true]
theorem f10_e1 (a b c e : Int) : ∀ (d i : Nat) (ms : List Int) (w : List UInt8), i + d = l.length → ms.length ≤ 4 * i →
  Go10 kk f10t8 (f10s3 l i 0 0 0 0 0 [] 0 a b c e w [] ms) (proC (a, b, c, e) (goP (a, b, c, e) (l.drop i) ⟨[], [], ms, w⟩)) := by
 intro d
 induction d with
 | zero =>
   intro i ms w hi h2
   rw [List.drop_eq_nil_of_le (by omega)]
   have hc := ci_len ms
   have key := f10_t6 kk [] a b c e (compI (sortI ms)) w (by omega)
   have es0 : sortR [] = [] := List.eq_nil_of_length_eq_zero (by rw [sortR_len [] rfl]; rfl)
   have er : proC (a, b, c, e) (goP (a, b, c, e) [] ⟨[], [], ms, w⟩) = finE (0, [], [], a, b, c, e, compI (sortI ms), w) := by
    show finP (a, b, c, e) ⟨[], [], ms, w⟩ = _
    unfold finP
    simp only
    rw [es0]
    rfl
   rw [er]
   refine key.step fun N => ?_
   show vrun _ _ _ _ _ _ _ _ = _
   rw [vrun_succ, f10_3, bif_neg (by exact decide_eq_false (by omega))]
   have es1 : arL encI (Go.Sort.sort Go.Sort.ltInt (liftI ms)) = sortI ms := by rw [arL_encI]; rfl
   have hsl : (sortI ms).length = ms.length := (sortI_perm ms).length_eq
   rw [es1, show ckI ms = true from rfl, Bool.true_and, bif_pos (by exact decide_eq_true (by omega)), bif_pos (by exact decide_eq_true (by omega))]
 | succ d ih =>
   intro i ms w hi h2
   have hlt : i < l.length := by omega
   have hs := hr _ (List.getElem_mem hlt)
   have hml := marks_len hs
   rw [List.drop_eq_getElem_cons hlt]
   simp only [goP]
   by_cases hv : l[i].val = (a, b, c, e)
   ·rw [if_pos hv]
    have h8 : l[i].2.1.length ≤ 8 := hs.few
    have hle := inE_len l[i].2.1 l[i].2.2.1 ([], [])
    have hckp : ckP l[i].2.1 = true := List.all_eq_true.2 fun p hp => hs.pr p hp
    have key : ∀ w', Go10 kk f10t16 (f10s5 l i l[i] 0 0 0 0 0 0 [] 0 a b c e w' [] l[i] (ms ++ l[i].marks)) (proC (a, b, c, e) (goP (a, b, c, e) (l.drop (i + 1)) ⟨(inE l[i].pitches l[i].ties ([], [])).1, (inE l[i].pitches l[i].ties ([], [])).2, ms ++ l[i].marks, w'⟩)) := fun w' => by
     refine f10_p0 kk l i l[i] hlt (by omega) hs.len h8 _ a b c e w' _ (fun hz => ?_) (fun hz => ?_)
     ·have hz' : l[i].pitches = [] := hz
      rw [hz']
      simp only [inE]
      exact ih (i + 1) _ w' (by omega) (by rw [List.length_append]; omega)
     ·exact f10_e kk l hl hr a b c e d (i + 1) _ _ _ w' (by omega) (by have h9 : (inE l[i].2.1 l[i].2.2.1 ([], [])).1.length ≤ 0 + l[i].2.1.length := hle; show (inE l[i].2.1 l[i].2.2.1 ([], [])).1.length ≤ 8 * (i + 1); omega) (by rw [List.length_append]; omega) (inE_right _ _ _ hckp rfl)
    refine (key _).step fun N => ?_
    have b1 : decide ((ms.length + List.length l[i].2.2.2.2.2.2.2.1) * 8 ≤ bytesMost) = true := decide_eq_true (by
     have : l[i].2.2.2.2.2.2.2.1.length ≤ 4 := hml
     simp [bytesMost]; omega)
    show vrun _ _ _ _ _ _ _ _ = _
    rw [vrun_succ, f10_3, bif_pos (by exact decide_eq_true (by omega)), idxL hlt]
    dsimp only
    rw [valEq, decide_eq_true hv, Bool.not_true, cond_false, b1]
    by_cases hw : w = []
    ·subst hw
     rw [if_pos rfl]
     rfl
    ·rw [if_neg hw, bif_neg (by simpa using hw)]
     rfl
   ·rw [if_neg hv]
    refine ⟨1, _, canon_zEv 2, ?_⟩
    show vrun _ _ _ _ _ _ _ _ = _
    rw [vrun_succ, f10_3, bif_pos (by exact decide_eq_true (by omega)), idxL hlt]
    dsimp only
    rw [valEq, decide_eq_false hv, Bool.not_false, cond_true]
end
def okC10 (l : List Ev) : Bool := oksE l && decide (l.length ≤ 30)
theorem f10_run (kk : V → List Ob → Option (V × List Ob)) (l : List Ev) (h : okC10 l = true) :
  ∃ N v, canon2 true rEvent v = some ((chordS l).1, .int .i64 (chordS l).2) ∧ R10 kk N [.code (fb Tryd.f10).2] (start [enc false srE l] []) = kk v [] := by
 simp only [okC10, Bool.and_eq_true, decide_eq_true_eq] at h
 obtain ⟨hok, h2⟩ := h
 have hm := (oksE_of hok).2
 match l, h2, hok, hm with
 | [], _, _, _ =>
   refine ⟨1, _, canon_zEv 2, ?_⟩
   show vrun _ _ _ _ _ _ _ _ = _
   rw [vrun_succ]
   refine (f10_go _ kk []).trans ?_
   rfl
 | x :: q, h2, hok, hm =>
   cases ha : (x :: q).all Ev.right with
   | false =>
     rw [chordS_wrong (by simp) ha]
     refine ⟨1, _, canon_zEv 60, ?_⟩
     show vrun _ _ _ _ _ _ _ _ = _
     rw [vrun_succ]
     refine (f10_go _ kk (x :: q)).trans ?_
     rw [bif_neg (by exact decide_eq_false (by simp; omega)), hok, cond_true, firstBad_ge, ha]
     rfl
   | true =>
     have hs := all_sound ha
     rw [← proC_ch ha]
     have s0 := hs x (by simp)
     have h8 : x.2.1.length ≤ 8 := s0.few
     have hml := marks_len s0
     have hckp : ckP x.2.1 = true := List.all_eq_true.2 fun p hp => s0.pr p hp
     have hle := inE_len x.2.1 x.2.2.1 ([], [])
     have go : Go10 kk f10t8 (f10s0 (x :: q) 0 0 0 0 0 0 [] 0 x.2.2.2.1 x.2.2.2.2.1 x.2.2.2.2.2.1 x.2.2.2.2.2.2.1 [] []) (proC x.val (goP x.val (x :: q) ⟨[], [], [], []⟩)) := by
      simp only [goP]
      have key : Go10 kk f10t16 (f10s5 (x :: q) ((0 : Nat) : Int) x 0 0 0 0 0 0 [] 0 x.2.2.2.1 x.2.2.2.2.1 x.2.2.2.2.2.1 x.2.2.2.2.2.2.1 x.word [] x x.marks) (proC x.val (goP x.val q ⟨(inE x.pitches x.ties ([], [])).1, (inE x.pitches x.ties ([], [])).2, x.marks, x.word⟩)) := by
       refine f10_p0 kk (x :: q) 0 x (by simp) (by omega) s0.len h8 _ _ _ _ _ x.word _ (fun hz => ?_) (fun hz => ?_)
       ·have hz' : x.pitches = [] := hz
        rw [hz']
        simp only [inE]
        exact f10_e1 kk (x :: q) h2 hs _ _ _ _ q.length 1 x.marks x.word (by simp; omega) (by omega)
       ·exact f10_e kk (x :: q) h2 hs _ _ _ _ q.length 1 _ _ x.marks x.word (by simp; omega) (by have h9 : (inE x.2.1 x.2.2.1 ([], [])).1.length ≤ 0 + x.2.1.length := hle; show (inE x.2.1 x.2.2.1 ([], [])).1.length ≤ 8 * 1; omega) (by omega) (inE_right _ _ _ hckp rfl)
      refine key.step fun N => ?_
      have b1 : decide (List.length x.2.2.2.2.2.2.2.1 * 8 ≤ bytesMost) = true := decide_eq_true (by
       have : x.2.2.2.2.2.2.2.1.length ≤ 4 := hml
       simp [bytesMost]; omega)
      show vrun _ _ _ _ _ _ _ _ = _
      rw [vrun_succ, f10_0, bif_pos (by exact decide_eq_true (by simp)), idx_get (x :: q) (0 : Int) 0 rfl]
      dsimp only [List.getElem?_cons_zero]
      rw [valEq, decide_eq_true (show x.val = (x.2.2.2.1, x.2.2.2.2.1, x.2.2.2.2.2.1, x.2.2.2.2.2.2.1) from rfl), Bool.not_true, cond_false, b1]
      rfl
     obtain ⟨N, v, h3, h4⟩ := go
     refine ⟨N + 1, v, h3, ?_⟩
     show vrun _ _ _ _ _ _ _ _ = _
     rw [vrun_succ]
     refine (f10_go _ kk (x :: q)).trans ?_
     rw [bif_neg (by exact decide_eq_false (by simp; omega)), hok, cond_true, firstBad_ge, ha]
     exact h4
noncomputable def f10e : Entry Tryd.prog gls := .one 10 false srE (by intro h; cases h <;> rfl) (fun (l : List Ev) => (okC10 l, evR (chordS l))) fun x h => by
 obtain ⟨n, v, hv, hn⟩ := f10_run (fun v os => some (v, os)) x h
 have := contract_run (fn := (fb Tryd.f10).1) (c := (fb Tryd.f10).2) mixed (ready21 8) (glE21 8) Tryd.func10 (by kernel_rfl) rfl rfl (by kernel_rfl) hn
 exact this.canon2 (by intro h; cases h) hv
noncomputable def es22 : List (Entry Tryd.prog gls) := [f10e] ++ es21
noncomputable def E22 (n : Nat) : Env := interp fns (look tys) gls mvs (tabOf es22) 100000 n
theorem ready22 (n : Nat) : Ready Tryd.prog (E22 n) := ready_of mixed fnsAll tysOk rfsOk n
theorem glE22 (n : Nat) : (E22 n).gl = gls := by cases n <;> rfl
end Vm.S6b
