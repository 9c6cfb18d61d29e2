/- Chords in the program and in the document's answer, as runs of the value machine. -/
import Derived.Test.YtlbkefgnblajlaaDoorLawE
import Derived.Test.YtlbkefgnblajlaaDoorVmE
import Derived.KernelRfl
import Derived.Test.YtlbkefgnblajlaaDoorWords
set_option maxRecDepth 100000
open Go Go.Proofs Go.IntKind
namespace Vm.S6b
variable {R : Type} (J : List Item → St → Option R) (kk : V → List Ob → Option R)
noncomputable abbrev f10cuts : Cuts := look [(8, [2, 4, 5, 27, 28, 29]), (16, [2, 4, 5, 7, 27, 28, 29, 52, 53, 54]), (28, [2, 4, 5, 98, 99, 100])]
noncomputable abbrev f10t28 : List Item := itemsAt (fb Tryd.f10).2 28
noncomputable abbrev f10t16 : List Item := itemsAt (fb Tryd.f10).2 16
noncomputable abbrev f10t8 : List Item := itemsAt (fb Tryd.f10).2 8
def f10s0 (l : List Ev) (n2 n3 n4 n5 n6 n7 : Int) (s8 : List UInt8) (n9 n10 n11 n12 n13 : Int) (s14 : List UInt8) (e15 : List (Pt × Bool)) : St := { fr := [(2, V.ref 0 0 0 0), (4, V.ref 1 0 0 0), (5, V.map 2), (27, V.sl rEvent l), (28, V.int i64 (↑l.length : Int)), (29, V.int i64 n2)], hp := [(0, Ob.var [V.int i64 n3, V.nilsl, V.nilsl, V.int i64 n4, V.int i64 n5, V.int i64 n6, V.int i64 n7, V.nilsl, V.str s8]), (1, Ob.var [V.int i64 n9, V.nilsl, V.nilsl, V.int i64 n10, V.int i64 n11, V.int i64 n12, V.int i64 n13, V.nilsl, V.str s14]), (2, Ob.map rPitch true rB false e15)], nx := 3 }
def f10s1 (l : List Ev) (n2 : Int) (y16 : Ev) (n17 n18 n19 n20 n21 n22 : Int) (s23 : List UInt8) (n24 n25 n26 n27 n28 : Int) (s29 : List UInt8) (e30 : List (Pt × Bool)) (x31 : Ev) (l32 : List Int) : St := { fr := [(2, V.ref 0 0 0 0), (4, V.ref 1 0 0 0), (5, V.map 2), (7, V.ref 3 0 0 0), (27, V.sl rEvent l), (28, V.int i64 (↑l.length : Int)), (29, V.int i64 n2), (52, V.sl rPitch y16.snd.fst), (53, V.int i64 (↑(List.length y16.snd.fst) : Int)), (54, V.int i64 n17)], hp := [(0, Ob.var [V.int i64 n18, V.nilsl, V.nilsl, V.int i64 n19, V.int i64 n20, V.int i64 n21, V.int i64 n22, V.nilsl, V.str s23]), (1, Ob.var [V.int i64 n24, V.nilsl, V.nilsl, V.int i64 n25, V.int i64 n26, V.int i64 n27, V.int i64 n28, V.own 4, V.str s29]), (2, Ob.map rPitch true rB false e30), (3, Ob.var [V.int i64 x31.fst, V.sl rPitch x31.snd.fst, V.sl rB x31.snd.snd.fst, V.int i64 x31.snd.snd.snd.fst, V.int i64 x31.snd.snd.snd.snd.fst, V.int i64 x31.snd.snd.snd.snd.snd.fst, V.int i64 x31.snd.snd.snd.snd.snd.snd.fst, V.sl rI x31.snd.snd.snd.snd.snd.snd.snd.fst, V.str x31.snd.snd.snd.snd.snd.snd.snd.snd]), (4, Ob.arr rI l32 false)], nx := 5 }
def f10s3 (l : List Ev) (n53 n54 n55 n56 n57 n58 : Int) (s59 : List UInt8) (n60 n61 n62 n63 n64 : Int) (s65 : List UInt8) (e66 : List (Pt × Bool)) (l67 : List Int) : St := { fr := [(2, V.ref 0 0 0 0), (4, V.ref 1 0 0 0), (5, V.map 2), (27, V.sl rEvent l), (28, V.int i64 (↑l.length : Int)), (29, V.int i64 n53)], hp := [(0, Ob.var [V.int i64 n54, V.nilsl, V.nilsl, V.int i64 n55, V.int i64 n56, V.int i64 n57, V.int i64 n58, V.nilsl, V.str s59]), (1, Ob.var [V.int i64 n60, V.nilsl, V.nilsl, V.int i64 n61, V.int i64 n62, V.int i64 n63, V.int i64 n64, V.own 3, V.str s65]), (2, Ob.map rPitch true rB false e66), (3, Ob.arr rI l67 false)], nx := 4 }
def f10s4 (l : List Ev) (n71 n72 n73 n74 n75 n76 : Int) (s77 : List UInt8) (n78 n79 n80 n81 n82 : Int) (s83 : List UInt8) (e84 : List (Pt × Bool)) (l85 : List Pt) (l86 : List Int) : St := { fr := [(2, V.ref 0 0 0 0), (4, V.ref 1 0 0 0), (5, V.map 2), (27, V.sl rEvent l), (28, V.int i64 (↑l.length : Int)), (29, V.int i64 n71)], hp := [(0, Ob.var [V.int i64 n72, V.nilsl, V.nilsl, V.int i64 n73, V.int i64 n74, V.int i64 n75, V.int i64 n76, V.nilsl, V.str s77]), (1, Ob.var [V.int i64 n78, V.own 3, V.nilsl, V.int i64 n79, V.int i64 n80, V.int i64 n81, V.int i64 n82, V.own 4, V.str s83]), (2, Ob.map rPitch true rB false e84), (3, Ob.arr rPitch l85 false), (4, Ob.arr rI l86 false)], nx := 5 }
def f10s5 (l : List Ev) (n53 : Int) (y87 : Ev) (n88 n89 n90 n91 n92 n93 : Int) (s94 : List UInt8) (n95 n96 n97 n98 n99 : Int) (s100 : List UInt8) (e101 : List (Pt × Bool)) (x102 : Ev) (l103 : List Int) : St := { fr := [(2, V.ref 0 0 0 0), (4, V.ref 1 0 0 0), (5, V.map 2), (7, V.ref 3 0 0 0), (27, V.sl rEvent l), (28, V.int i64 (↑l.length : Int)), (29, V.int i64 n53), (52, V.sl rPitch y87.snd.fst), (53, V.int i64 (↑(List.length y87.snd.fst) : Int)), (54, V.int i64 n88)], hp := [(0, Ob.var [V.int i64 n89, V.nilsl, V.nilsl, V.int i64 n90, V.int i64 n91, V.int i64 n92, V.int i64 n93, V.nilsl, V.str s94]), (1, Ob.var [V.int i64 n95, V.nilsl, V.nilsl, V.int i64 n96, V.int i64 n97, V.int i64 n98, V.int i64 n99, V.own 4, V.str s100]), (2, Ob.map rPitch true rB false e101), (3, Ob.var [V.int i64 x102.fst, V.sl rPitch x102.snd.fst, V.sl rB x102.snd.snd.fst, V.int i64 x102.snd.snd.snd.fst, V.int i64 x102.snd.snd.snd.snd.fst, V.int i64 x102.snd.snd.snd.snd.snd.fst, V.int i64 x102.snd.snd.snd.snd.snd.snd.fst, V.sl rI x102.snd.snd.snd.snd.snd.snd.snd.fst, V.str x102.snd.snd.snd.snd.snd.snd.snd.snd]), (4, Ob.arr rI l103 false)], nx := 5 }
def f10s6 (n104 n105 n106 n107 n108 n109 : Int) (s110 : List UInt8) (n111 n112 n113 n114 n115 : Int) (l116 : List Int) (s117 : List UInt8) (e118 : List (Pt × Bool)) : St := { fr := [(2, V.ref 0 0 0 0), (4, V.ref 1 0 0 0), (5, V.map 2), (98, V.nilsl), (99, V.int i64 (0 : Int)), (100, V.int i64 n104)], hp := [(0, Ob.var [V.int i64 n105, V.nilsl, V.nilsl, V.int i64 n106, V.int i64 n107, V.int i64 n108, V.int i64 n109, V.nilsl, V.str s110]), (1, Ob.var [V.int i64 n111, V.nilsl, V.nilsl, V.int i64 n112, V.int i64 n113, V.int i64 n114, V.int i64 n115, V.sl rI l116, V.str s117]), (2, Ob.map rPitch true rB false e118)], nx := 3 }
def f10s7 (l : List Ev) (n71 : Int) (y119 : Ev) (n120 n121 n122 n123 n124 n125 : Int) (s126 : List UInt8) (n127 n128 n129 n130 n131 : Int) (s132 : List UInt8) (e133 : List (Pt × Bool)) (x134 : Ev) (l135 : List Pt) (l136 : List Int) : St := { fr := [(2, V.ref 0 0 0 0), (4, V.ref 1 0 0 0), (5, V.map 2), (7, V.ref 3 0 0 0), (27, V.sl rEvent l), (28, V.int i64 (↑l.length : Int)), (29, V.int i64 n71), (52, V.sl rPitch y119.snd.fst), (53, V.int i64 (↑(List.length y119.snd.fst) : Int)), (54, V.int i64 n120)], hp := [(0, Ob.var [V.int i64 n121, V.nilsl, V.nilsl, V.int i64 n122, V.int i64 n123, V.int i64 n124, V.int i64 n125, V.nilsl, V.str s126]), (1, Ob.var [V.int i64 n127, V.own 4, V.nilsl, V.int i64 n128, V.int i64 n129, V.int i64 n130, V.int i64 n131, V.own 5, V.str s132]), (2, Ob.map rPitch true rB false e133), (3, Ob.var [V.int i64 x134.fst, V.sl rPitch x134.snd.fst, V.sl rB x134.snd.snd.fst, V.int i64 x134.snd.snd.snd.fst, V.int i64 x134.snd.snd.snd.snd.fst, V.int i64 x134.snd.snd.snd.snd.snd.fst, V.int i64 x134.snd.snd.snd.snd.snd.snd.fst, V.sl rI x134.snd.snd.snd.snd.snd.snd.snd.fst, V.str x134.snd.snd.snd.snd.snd.snd.snd.snd]), (4, Ob.arr rPitch l135 false), (5, Ob.arr rI l136 false)], nx := 6 }
def f10s8 (l85 : List Pt) (n137 n138 n139 n140 n141 n142 : Int) (s143 : List UInt8) (n144 n145 n146 n147 n148 : Int) (l149 : List Int) (s150 : List UInt8) (e151 : List (Pt × Bool)) (l152 : List Pt) : St := { fr := [(2, V.ref 0 0 0 0), (4, V.ref 1 0 0 0), (5, V.map 2), (98, V.own 3), (99, V.int i64 (↑(arL encP («Sort».sort ltR (liftR l85))).length : Int)), (100, V.int i64 n137)], hp := [(0, Ob.var [V.int i64 n138, V.nilsl, V.nilsl, V.int i64 n139, V.int i64 n140, V.int i64 n141, V.int i64 n142, V.nilsl, V.str s143]), (1, Ob.var [V.int i64 n144, V.own 3, V.nilsl, V.int i64 n145, V.int i64 n146, V.int i64 n147, V.int i64 n148, V.sl rI l149, V.str s150]), (2, Ob.map rPitch true rB false e151), (3, Ob.arr rPitch l152 false)], nx := 4 }
def f10s9 (l : List Ev) (n53 : Int) (y87 : Ev) (n154 n155 n156 n157 n158 n159 : Int) (s160 : List UInt8) (n161 n162 n163 n164 n165 : Int) (s166 : List UInt8) (e167 : List (Pt × Bool)) (x168 : Ev) (l169 : List Pt) (l170 : List Int) : St := { fr := [(2, V.ref 0 0 0 0), (4, V.ref 1 0 0 0), (5, V.map 2), (7, V.ref 3 0 0 0), (27, V.sl rEvent l), (28, V.int i64 (↑l.length : Int)), (29, V.int i64 n53), (52, V.sl rPitch y87.snd.fst), (53, V.int i64 (↑(List.length y87.snd.fst) : Int)), (54, V.int i64 n154)], hp := [(0, Ob.var [V.int i64 n155, V.nilsl, V.nilsl, V.int i64 n156, V.int i64 n157, V.int i64 n158, V.int i64 n159, V.nilsl, V.str s160]), (1, Ob.var [V.int i64 n161, V.own 4, V.nilsl, V.int i64 n162, V.int i64 n163, V.int i64 n164, V.int i64 n165, V.own 5, V.str s166]), (2, Ob.map rPitch true rB false e167), (3, Ob.var [V.int i64 x168.fst, V.sl rPitch x168.snd.fst, V.sl rB x168.snd.snd.fst, V.int i64 x168.snd.snd.snd.fst, V.int i64 x168.snd.snd.snd.snd.fst, V.int i64 x168.snd.snd.snd.snd.snd.fst, V.int i64 x168.snd.snd.snd.snd.snd.snd.fst, V.sl rI x168.snd.snd.snd.snd.snd.snd.snd.fst, V.str x168.snd.snd.snd.snd.snd.snd.snd.snd]), (4, Ob.arr rPitch l169 false), (5, Ob.arr rI l170 false)], nx := 6 }
def f10s10 (l85 : List Pt) (n178 n179 n180 n181 n182 n183 : Int) (s184 : List UInt8) (n185 n186 n187 n188 n189 : Int) (l190 : List Int) (s191 : List UInt8) (e192 : List (Pt × Bool)) (l193 : List Pt) (l194 : List Bool) : St := { fr := [(2, V.ref 0 0 0 0), (4, V.ref 1 0 0 0), (5, V.map 2), (98, V.own 3), (99, V.int i64 (↑(arL encP («Sort».sort ltR (liftR l85))).length : Int)), (100, V.int i64 n178)], hp := [(0, Ob.var [V.int i64 n179, V.nilsl, V.nilsl, V.int i64 n180, V.int i64 n181, V.int i64 n182, V.int i64 n183, V.nilsl, V.str s184]), (1, Ob.var [V.int i64 n185, V.own 3, V.own 4, V.int i64 n186, V.int i64 n187, V.int i64 n188, V.int i64 n189, V.sl rI l190, V.str s191]), (2, Ob.map rPitch true rB false e192), (3, Ob.arr rPitch l193 false), (4, Ob.arr rB l194 false)], nx := 5 }
noncomputable abbrev k10 {Q : Type} (k : V → List Ob → Option Q) := vend (E21 8) 0 (fb Tryd.f10).1.results.toList false k
theorem f10_go (l : List Ev) :
 vseg (E21 8) f10cuts 0 J (k10 kk) 100000 true [.code (fb Tryd.f10).2] (start ([V.sl rEvent l]) ([])) =
 (bif decide ((↑l.length : Int) = (0 : Int)) then
 kk (V.tuple [V.agg [V.int i64 (0 : Int), V.nilsl, V.nilsl, V.int i64 (0 : Int), V.int i64 (0 : Int), V.int i64 (0 : Int), V.int i64 (0 : Int), V.nilsl, V.str []], V.int i64 (2 : Int)]) ([])
 else (bif oksE l then
 (bif decide ((0 : Int) ≤ firstBad l (0 : Nat)) then
 kk (V.tuple [V.agg [V.int i64 (0 : Int), V.nilsl, V.nilsl, V.int i64 (0 : Int), V.int i64 (0 : Int), V.int i64 (0 : Int), V.int i64 (0 : Int), V.nilsl, V.str []], V.int i64 (60 : Int)]) ([])
 else (match idx l (0 : Int) with
 | some y1 => J f10t8 (f10s0 l (0 : Int) (0 : Int) (0 : Int) (0 : Int) (0 : Int) (0 : Int) ([]) (0 : Int) (y1.snd.snd.snd.fst) (y1.snd.snd.snd.snd.fst) (y1.snd.snd.snd.snd.snd.fst) (y1.snd.snd.snd.snd.snd.snd.fst) ([]) ([]))
 | none => none))
 else none)) := by kernel_rfl
theorem f10_0 (l : List Ev) (n2 n3 n4 n5 n6 n7 : Int) (s8 : List UInt8) (n9 n10 n11 n12 n13 : Int) (s14 : List UInt8) (e15 : List (Pt × Bool)) :
 vseg (E21 8) f10cuts 0 J (k10 kk) 100000 true f10t8 (f10s0 l n2 n3 n4 n5 n6 n7 s8 n9 n10 n11 n12 n13 s14 e15) =
 (bif decide (n2 < (↑l.length : Int)) then
 (match idx l n2 with
 | some y16 => (bif !(decide (y16.snd.snd.snd.fst = n10) && (decide (y16.snd.snd.snd.snd.fst = n11) && (decide (y16.snd.snd.snd.snd.snd.fst = n12) && decide (y16.snd.snd.snd.snd.snd.snd.fst = n13)))) then
 kk (V.tuple [V.agg [V.int i64 (0 : Int), V.nilsl, V.nilsl, V.int i64 (0 : Int), V.int i64 (0 : Int), V.int i64 (0 : Int), V.int i64 (0 : Int), V.nilsl, V.str []], V.int i64 (2 : Int)]) ([])
 else (bif s14 == ([] : List UInt8) then
 (bif decide (List.length y16.snd.snd.snd.snd.snd.snd.snd.fst * 8 ≤ bytesMost) then
 J f10t16 (f10s1 l n2 y16 (0 : Int) n3 n4 n5 n6 n7 s8 n9 n10 n11 n12 n13 (y16.snd.snd.snd.snd.snd.snd.snd.snd) e15 y16 (y16.snd.snd.snd.snd.snd.snd.snd.fst))
 else none)
 else (bif decide (List.length y16.snd.snd.snd.snd.snd.snd.snd.fst * 8 ≤ bytesMost) then
 J f10t16 (f10s1 l n2 y16 (0 : Int) n3 n4 n5 n6 n7 s8 n9 n10 n11 n12 n13 s14 e15 y16 (y16.snd.snd.snd.snd.snd.snd.snd.fst))
 else none)))
 | none => none)
 else none) := by kernel_rfl
theorem f10_3 (l : List Ev) (n53 n54 n55 n56 n57 n58 : Int) (s59 : List UInt8) (n60 n61 n62 n63 n64 : Int) (s65 : List UInt8) (e66 : List (Pt × Bool)) (l67 : List Int) :
 vseg (E21 8) f10cuts 0 J (k10 kk) 100000 true f10t8 (f10s3 l n53 n54 n55 n56 n57 n58 s59 n60 n61 n62 n63 n64 s65 e66 l67) =
 (bif decide (n53 < (↑l.length : Int)) then
 (match idx l n53 with
 | some y87 => (bif !(decide (y87.snd.snd.snd.fst = n61) && (decide (y87.snd.snd.snd.snd.fst = n62) && (decide (y87.snd.snd.snd.snd.snd.fst = n63) && decide (y87.snd.snd.snd.snd.snd.snd.fst = n64)))) then
 kk (V.tuple [V.agg [V.int i64 (0 : Int), V.nilsl, V.nilsl, V.int i64 (0 : Int), V.int i64 (0 : Int), V.int i64 (0 : Int), V.int i64 (0 : Int), V.nilsl, V.str []], V.int i64 (2 : Int)]) ([])
 else (bif s65 == ([] : List UInt8) then
 (bif decide ((l67.length + List.length y87.snd.snd.snd.snd.snd.snd.snd.fst) * 8 ≤ bytesMost) then
 J f10t16 (f10s5 l n53 y87 (0 : Int) n54 n55 n56 n57 n58 s59 n60 n61 n62 n63 n64 (y87.snd.snd.snd.snd.snd.snd.snd.snd) e66 y87 (l67 ++ y87.snd.snd.snd.snd.snd.snd.snd.fst))
 else none)
 else (bif decide ((l67.length + List.length y87.snd.snd.snd.snd.snd.snd.snd.fst) * 8 ≤ bytesMost) then
 J f10t16 (f10s5 l n53 y87 (0 : Int) n54 n55 n56 n57 n58 s59 n60 n61 n62 n63 n64 s65 e66 y87 (l67 ++ y87.snd.snd.snd.snd.snd.snd.snd.fst))
 else none)))
 | none => none)
 else (bif ckI l67 && decide (l67.length < (256 : Nat)) then
 (bif decide ((arL encI («Sort».sort «Sort».ltInt (liftI l67))).length < (1000000000 : Nat)) then
 J f10t28 (f10s6 (0 : Int) n54 n55 n56 n57 n58 s59 n60 n61 n62 n63 n64 (compI (arL encI («Sort».sort «Sort».ltInt (liftI l67)))) s65 e66)
 else none)
 else none)) := by kernel_rfl
theorem f10_4 (l : List Ev) (n71 n72 n73 n74 n75 n76 : Int) (s77 : List UInt8) (n78 n79 n80 n81 n82 : Int) (s83 : List UInt8) (e84 : List (Pt × Bool)) (l85 : List Pt) (l86 : List Int) :
 vseg (E21 8) f10cuts 0 J (k10 kk) 100000 true f10t8 (f10s4 l n71 n72 n73 n74 n75 n76 s77 n78 n79 n80 n81 n82 s83 e84 l85 l86) =
 (bif decide (n71 < (↑l.length : Int)) then
 (match idx l n71 with
 | some y119 => (bif !(decide (y119.snd.snd.snd.fst = n79) && (decide (y119.snd.snd.snd.snd.fst = n80) && (decide (y119.snd.snd.snd.snd.snd.fst = n81) && decide (y119.snd.snd.snd.snd.snd.snd.fst = n82)))) then
 kk (V.tuple [V.agg [V.int i64 (0 : Int), V.nilsl, V.nilsl, V.int i64 (0 : Int), V.int i64 (0 : Int), V.int i64 (0 : Int), V.int i64 (0 : Int), V.nilsl, V.str []], V.int i64 (2 : Int)]) ([])
 else (bif s83 == ([] : List UInt8) then
 (bif decide ((l86.length + List.length y119.snd.snd.snd.snd.snd.snd.snd.fst) * 8 ≤ bytesMost) then
 J f10t16 (f10s7 l n71 y119 (0 : Int) n72 n73 n74 n75 n76 s77 n78 n79 n80 n81 n82 (y119.snd.snd.snd.snd.snd.snd.snd.snd) e84 y119 l85 (l86 ++ y119.snd.snd.snd.snd.snd.snd.snd.fst))
 else none)
 else (bif decide ((l86.length + List.length y119.snd.snd.snd.snd.snd.snd.snd.fst) * 8 ≤ bytesMost) then
 J f10t16 (f10s7 l n71 y119 (0 : Int) n72 n73 n74 n75 n76 s77 n78 n79 n80 n81 n82 s83 e84 y119 l85 (l86 ++ y119.snd.snd.snd.snd.snd.snd.snd.fst))
 else none)))
 | none => none)
 else (bif ckI l86 && decide (l86.length < (256 : Nat)) then
 (bif decide ((arL encI («Sort».sort «Sort».ltInt (liftI l86))).length < (1000000000 : Nat)) then
 (bif ckP l85 && decide (l85.length < (256 : Nat)) then
 J f10t28 (f10s8 l85 (0 : Int) n72 n73 n74 n75 n76 s77 n78 n79 n80 n81 n82 (compI (arL encI («Sort».sort «Sort».ltInt (liftI l86)))) s83 e84 (arL encP («Sort».sort ltR (liftR l85))))
 else none)
 else none)
 else none)) := by kernel_rfl
theorem f10_5 (l : List Ev) (n53 : Int) (y87 : Ev) (n88 n89 n90 n91 n92 n93 : Int) (s94 : List UInt8) (n95 n96 n97 n98 n99 : Int) (s100 : List UInt8) (e101 : List (Pt × Bool)) (x102 : Ev) (l103 : List Int) :
 vseg (E21 8) f10cuts 0 J (k10 kk) 100000 true f10t16 (f10s5 l n53 y87 n88 n89 n90 n91 n92 n93 s94 n95 n96 n97 n98 n99 s100 e101 x102 l103) =
 (bif decide (n88 < (↑(List.length y87.snd.fst) : Int)) then
 (match idx y87.snd.fst n88 with
 | some y153 => (bif !(findKey rPitch.beq y153 e101).isSome then
 (bif (findKey rPitch.beq y153 e101).getD false then
 J f10t16 (f10s9 l n53 y87 (i64.wrap (n88 + (1 : Int))) n89 n90 n91 n92 n93 s94 n95 n96 n97 n98 n99 s100 (setKey rPitch.beq y153 true e101) x102 ([y153]) l103)
 else (match idx x102.snd.snd.fst n88 with
 | some y171 => J f10t16 (f10s9 l n53 y87 (i64.wrap (n88 + (1 : Int))) n89 n90 n91 n92 n93 s94 n95 n96 n97 n98 n99 s100 (setKey rPitch.beq y153 y171 e101) x102 ([y153]) l103)
 | none => none))
 else (bif (findKey rPitch.beq y153 e101).getD false then
 J f10t16 (f10s5 l n53 y87 (i64.wrap (n88 + (1 : Int))) n89 n90 n91 n92 n93 s94 n95 n96 n97 n98 n99 s100 (setKey rPitch.beq y153 true e101) x102 l103)
 else (match idx x102.snd.snd.fst n88 with
 | some y172 => J f10t16 (f10s5 l n53 y87 (i64.wrap (n88 + (1 : Int))) n89 n90 n91 n92 n93 s94 n95 n96 n97 n98 n99 s100 (setKey rPitch.beq y153 y172 e101) x102 l103)
 | none => none)))
 | none => none)
 else J f10t8 (f10s3 l (i64.wrap (n53 + (1 : Int))) n89 n90 n91 n92 n93 s94 n95 n96 n97 n98 n99 s100 e101 l103)) := by kernel_rfl
theorem f10_6 (n104 n105 n106 n107 n108 n109 : Int) (s110 : List UInt8) (n111 n112 n113 n114 n115 : Int) (l116 : List Int) (s117 : List UInt8) (e118 : List (Pt × Bool)) :
 vseg (E21 8) f10cuts 0 J (k10 kk) 100000 true f10t28 (f10s6 n104 n105 n106 n107 n108 n109 s110 n111 n112 n113 n114 n115 l116 s117 e118) =
 (bif decide (n104 < (0 : Int)) then
 none
 else (bif Ev.okm (n111, [], [], n112, n113, n114, n115, l116, s117) then
 (bif !Ev.right (n111, [], [], n112, n113, n114, n115, l116, s117) then
 kk (V.tuple [V.agg [V.int i64 (0 : Int), V.nilsl, V.nilsl, V.int i64 (0 : Int), V.int i64 (0 : Int), V.int i64 (0 : Int), V.int i64 (0 : Int), V.nilsl, V.str []], V.int i64 (60 : Int)]) ([])
 else kk (V.tuple [V.agg [V.int i64 n111, V.nilsl, V.nilsl, V.int i64 n112, V.int i64 n113, V.int i64 n114, V.int i64 n115, V.sl rI l116, V.str s117], V.int i64 (0 : Int)]) ([]))
 else none)) := by kernel_rfl
theorem f10_8 (l85 : List Pt) (n137 n138 n139 n140 n141 n142 : Int) (s143 : List UInt8) (n144 n145 n146 n147 n148 : Int) (l149 : List Int) (s150 : List UInt8) (e151 : List (Pt × Bool)) (l152 : List Pt) :
 vseg (E21 8) f10cuts 0 J (k10 kk) 100000 true f10t28 (f10s8 l85 n137 n138 n139 n140 n141 n142 s143 n144 n145 n146 n147 n148 l149 s150 e151 l152) =
 (bif decide (n137 < (↑(arL encP («Sort».sort ltR (liftR l85))).length : Int)) then
 (match idx l152 n137 with
 | some _ => (match l152[n137.toNat]? with
 | some y177 => J f10t28 (f10s10 l85 (i64.wrap (n137 + (1 : Int))) n138 n139 n140 n141 n142 s143 (1 : Int) n145 n146 n147 n148 l149 s150 e151 l152 ([(findKey rPitch.beq y177 e151).getD false]))
 | none => none)
 | none => none)
 else (bif Ev.okm (n144, l152, [], n145, n146, n147, n148, l149, s150) then
 (bif !Ev.right (n144, l152, [], n145, n146, n147, n148, l149, s150) then
 kk (V.tuple [V.agg [V.int i64 (0 : Int), V.nilsl, V.nilsl, V.int i64 (0 : Int), V.int i64 (0 : Int), V.int i64 (0 : Int), V.int i64 (0 : Int), V.nilsl, V.str []], V.int i64 (60 : Int)]) ([])
 else kk (V.tuple [V.agg [V.int i64 n144, V.sl rPitch l152, V.nilsl, V.int i64 n145, V.int i64 n146, V.int i64 n147, V.int i64 n148, V.sl rI l149, V.str s150], V.int i64 (0 : Int)]) ([]))
 else none)) := by kernel_rfl
theorem f10_9 (l : List Ev) (n53 : Int) (y87 : Ev) (n154 n155 n156 n157 n158 n159 : Int) (s160 : List UInt8) (n161 n162 n163 n164 n165 : Int) (s166 : List UInt8) (e167 : List (Pt × Bool)) (x168 : Ev) (l169 : List Pt) (l170 : List Int) :
 vseg (E21 8) f10cuts 0 J (k10 kk) 100000 true f10t16 (f10s9 l n53 y87 n154 n155 n156 n157 n158 n159 s160 n161 n162 n163 n164 n165 s166 e167 x168 l169 l170) =
 (bif decide (n154 < (↑(List.length y87.snd.fst) : Int)) then
 (match idx y87.snd.fst n154 with
 | some y195 => (bif !(findKey rPitch.beq y195 e167).isSome then
 (bif decide ((l169.length + 1) * 24 ≤ bytesMost) then
 (bif (findKey rPitch.beq y195 e167).getD false then
 J f10t16 (f10s9 l n53 y87 (i64.wrap (n154 + (1 : Int))) n155 n156 n157 n158 n159 s160 n161 n162 n163 n164 n165 s166 (setKey rPitch.beq y195 true e167) x168 (l169 ++ [y195]) l170)
 else (match idx x168.snd.snd.fst n154 with
 | some y196 => J f10t16 (f10s9 l n53 y87 (i64.wrap (n154 + (1 : Int))) n155 n156 n157 n158 n159 s160 n161 n162 n163 n164 n165 s166 (setKey rPitch.beq y195 y196 e167) x168 (l169 ++ [y195]) l170)
 | none => none))
 else none)
 else (bif (findKey rPitch.beq y195 e167).getD false then
 J f10t16 (f10s9 l n53 y87 (i64.wrap (n154 + (1 : Int))) n155 n156 n157 n158 n159 s160 n161 n162 n163 n164 n165 s166 (setKey rPitch.beq y195 true e167) x168 l169 l170)
 else (match idx x168.snd.snd.fst n154 with
 | some y197 => J f10t16 (f10s9 l n53 y87 (i64.wrap (n154 + (1 : Int))) n155 n156 n157 n158 n159 s160 n161 n162 n163 n164 n165 s166 (setKey rPitch.beq y195 y197 e167) x168 l169 l170)
 | none => none)))
 | none => none)
 else J f10t8 (f10s4 l (i64.wrap (n53 + (1 : Int))) n155 n156 n157 n158 n159 s160 n161 n162 n163 n164 n165 s166 e167 l169 l170)) := by kernel_rfl
theorem f10_10 (l85 : List Pt) (n178 n179 n180 n181 n182 n183 : Int) (s184 : List UInt8) (n185 n186 n187 n188 n189 : Int) (l190 : List Int) (s191 : List UInt8) (e192 : List (Pt × Bool)) (l193 : List Pt) (l194 : List Bool) :
 vseg (E21 8) f10cuts 0 J (k10 kk) 100000 true f10t28 (f10s10 l85 n178 n179 n180 n181 n182 n183 s184 n185 n186 n187 n188 n189 l190 s191 e192 l193 l194) =
 (bif decide (n178 < (↑(arL encP («Sort».sort ltR (liftR l85))).length : Int)) then
 (match idx l193 n178 with
 | some _ => (match l193[n178.toNat]? with
 | some y199 => (bif decide ((l194.length + 1) * 1 ≤ bytesMost) then
 J f10t28 (f10s10 l85 (i64.wrap (n178 + (1 : Int))) n179 n180 n181 n182 n183 s184 (1 : Int) n186 n187 n188 n189 l190 s191 e192 l193 (l194 ++ [(findKey rPitch.beq y199 e192).getD false]))
 else none)
 | none => none)
 | none => none)
 else (bif Ev.okm (n185, l193, l194, n186, n187, n188, n189, l190, s191) then
 (bif !Ev.right (n185, l193, l194, n186, n187, n188, n189, l190, s191) then
 kk (V.tuple [V.agg [V.int i64 (0 : Int), V.nilsl, V.nilsl, V.int i64 (0 : Int), V.int i64 (0 : Int), V.int i64 (0 : Int), V.int i64 (0 : Int), V.nilsl, V.str []], V.int i64 (60 : Int)]) ([])
 else kk (V.tuple [V.agg [V.int i64 n185, V.sl rPitch l193, V.sl rB l194, V.int i64 n186, V.int i64 n187, V.int i64 n188, V.int i64 n189, V.sl rI l190, V.str s191], V.int i64 (0 : Int)]) ([]))
 else none)) := by kernel_rfl
noncomputable abbrev f11cuts : Cuts := look [(4, [0, 2, 4]), (10, [0, 2, 5, 6]), (17, [0, 2, 5, 6, 7]), (22, [0, 2, 5, 8]), (26, [0, 2, 5, 8, 9, 10])]
noncomputable abbrev f11t26 : List Item := itemsAt (fb Tryd.f11).2 26
noncomputable abbrev f11t22 : List Item := itemsAt (fb Tryd.f11).2 22
noncomputable abbrev f11t17 : List Item := itemsAt (fb Tryd.f11).2 17
noncomputable abbrev f11t10 : List Item := itemsAt (fb Tryd.f11).2 10
noncomputable abbrev f11t4 : List Item := itemsAt (fb Tryd.f11).2 4
def f11s0 (l : List Ev) (n1 n2 n3 n4 n5 n6 : Int) (s7 : List UInt8) : St := { fr := [(0, V.sl rEvent l), (2, V.ref 0 0 0 0), (4, V.int i64 n1)], hp := [(0, Ob.var [V.int i64 n2, V.nilsl, V.nilsl, V.int i64 n3, V.int i64 n4, V.int i64 n5, V.int i64 n6, V.nilsl, V.str s7])], nx := 1 }
def f11s1 (l : List Ev) (n10 n11 n12 n13 n14 n15 : Int) (s16 : List UInt8) (n17 n18 n19 n20 n21 : Int) (s22 : List UInt8) : St := { fr := [(0, V.sl rEvent l), (2, V.ref 0 0 0 0), (5, V.ref 1 0 0 0), (6, V.int i64 n10)], hp := [(0, Ob.var [V.int i64 n11, V.nilsl, V.nilsl, V.int i64 n12, V.int i64 n13, V.int i64 n14, V.int i64 n15, V.nilsl, V.str s16]), (1, Ob.var [V.int i64 n17, V.nilsl, V.nilsl, V.int i64 n18, V.int i64 n19, V.int i64 n20, V.int i64 n21, V.nilsl, V.str s22])], nx := 2 }
def f11s2 (l : List Ev) (n10 n25 n26 n27 n28 n29 n30 : Int) (s31 : List UInt8) (n32 n33 n34 n35 n36 : Int) (s37 : List UInt8) : St := { fr := [(0, V.sl rEvent l), (2, V.ref 0 0 0 0), (5, V.ref 1 0 0 0), (6, V.int i64 n10), (7, V.int i64 n25)], hp := [(0, Ob.var [V.int i64 n26, V.nilsl, V.nilsl, V.int i64 n27, V.int i64 n28, V.int i64 n29, V.int i64 n30, V.nilsl, V.str s31]), (1, Ob.var [V.int i64 n32, V.nilsl, V.nilsl, V.int i64 n33, V.int i64 n34, V.int i64 n35, V.int i64 n36, V.nilsl, V.str s37])], nx := 2 }
def f11s3 (l : List Ev) (n38 n39 n40 n41 n42 n43 : Int) (s44 : List UInt8) (n45 n46 n47 n48 n49 : Int) (s50 : List UInt8) : St := { fr := [(0, V.sl rEvent l), (2, V.ref 0 0 0 0), (5, V.ref 1 0 0 0), (8, V.int i64 n38)], hp := [(0, Ob.var [V.int i64 n39, V.nilsl, V.nilsl, V.int i64 n40, V.int i64 n41, V.int i64 n42, V.int i64 n43, V.nilsl, V.str s44]), (1, Ob.var [V.int i64 n45, V.nilsl, V.nilsl, V.int i64 n46, V.int i64 n47, V.int i64 n48, V.int i64 n49, V.nilsl, V.str s50])], nx := 2 }
def f11s4 (l : List Ev) (n10 n56 n57 n58 n59 n60 n61 : Int) (s62 : List UInt8) (n63 : Int) (l64 : List Pt) (l65 : List Bool) (n66 n67 n68 n69 : Int) (s70 : List UInt8) : St := { fr := [(0, V.sl rEvent l), (2, V.ref 0 0 0 0), (5, V.ref 1 0 0 0), (6, V.int i64 n10), (7, V.int i64 n56)], hp := [(0, Ob.var [V.int i64 n57, V.nilsl, V.nilsl, V.int i64 n58, V.int i64 n59, V.int i64 n60, V.int i64 n61, V.nilsl, V.str s62]), (1, Ob.var [V.int i64 n63, V.sl rPitch l64, V.sl rB l65, V.int i64 n66, V.int i64 n67, V.int i64 n68, V.int i64 n69, V.nilsl, V.str s70])], nx := 2 }
def f11s5 (l : List Ev) (n38 : Int) (b71 : Bool) (n72 n73 n74 n75 n76 n77 : Int) (s78 : List UInt8) (n79 n80 n81 n82 n83 : Int) (s84 : List UInt8) : St := { fr := [(0, V.sl rEvent l), (2, V.ref 0 0 0 0), (5, V.ref 1 0 0 0), (8, V.int i64 n38), (9, V.bool b71), (10, V.int i64 n72)], hp := [(0, Ob.var [V.int i64 n73, V.nilsl, V.nilsl, V.int i64 n74, V.int i64 n75, V.int i64 n76, V.int i64 n77, V.nilsl, V.str s78]), (1, Ob.var [V.int i64 n79, V.nilsl, V.nilsl, V.int i64 n80, V.int i64 n81, V.int i64 n82, V.int i64 n83, V.nilsl, V.str s84])], nx := 2 }
def f11s6 (l : List Ev) (n90 n91 n92 n93 n94 n95 : Int) (s96 : List UInt8) (n97 : Int) (l98 : List Pt) (l99 : List Bool) (n100 n101 n102 n103 : Int) (s104 : List UInt8) : St := { fr := [(0, V.sl rEvent l), (2, V.ref 0 0 0 0), (5, V.ref 1 0 0 0), (6, V.int i64 n90)], hp := [(0, Ob.var [V.int i64 n91, V.nilsl, V.nilsl, V.int i64 n92, V.int i64 n93, V.int i64 n94, V.int i64 n95, V.nilsl, V.str s96]), (1, Ob.var [V.int i64 n97, V.sl rPitch l98, V.sl rB l99, V.int i64 n100, V.int i64 n101, V.int i64 n102, V.int i64 n103, V.nilsl, V.str s104])], nx := 2 }
def f11s7 (l : List Ev) (n106 n107 n108 n109 n110 n111 : Int) (s112 : List UInt8) (n113 n114 n115 n116 n117 : Int) (s118 : List UInt8) (l119 : List Int) : St := { fr := [(0, V.sl rEvent l), (2, V.ref 0 0 0 0), (5, V.ref 1 0 0 0), (8, V.int i64 n106)], hp := [(0, Ob.var [V.int i64 n107, V.nilsl, V.nilsl, V.int i64 n108, V.int i64 n109, V.int i64 n110, V.int i64 n111, V.nilsl, V.str s112]), (1, Ob.var [V.int i64 n113, V.nilsl, V.nilsl, V.int i64 n114, V.int i64 n115, V.int i64 n116, V.int i64 n117, V.own 2, V.str s118]), (2, Ob.arr rI l119 false)], nx := 3 }
def f11s8 (l : List Ev) (n122 n123 n124 n125 n126 n127 : Int) (s128 : List UInt8) (n129 : Int) (l130 : List Pt) (l131 : List Bool) (n132 n133 n134 n135 : Int) (s136 : List UInt8) : St := { fr := [(0, V.sl rEvent l), (2, V.ref 0 0 0 0), (5, V.ref 1 0 0 0), (8, V.int i64 n122)], hp := [(0, Ob.var [V.int i64 n123, V.nilsl, V.nilsl, V.int i64 n124, V.int i64 n125, V.int i64 n126, V.int i64 n127, V.nilsl, V.str s128]), (1, Ob.var [V.int i64 n129, V.sl rPitch l130, V.sl rB l131, V.int i64 n132, V.int i64 n133, V.int i64 n134, V.int i64 n135, V.nilsl, V.str s136])], nx := 2 }
def f11s9 (l : List Ev) (n106 : Int) (b137 : Bool) (n138 n139 n140 n141 n142 n143 : Int) (s144 : List UInt8) (n145 n146 n147 n148 n149 : Int) (s150 : List UInt8) (l151 : List Int) : St := { fr := [(0, V.sl rEvent l), (2, V.ref 0 0 0 0), (5, V.ref 1 0 0 0), (8, V.int i64 n106), (9, V.bool b137), (10, V.int i64 n138)], hp := [(0, Ob.var [V.int i64 n139, V.nilsl, V.nilsl, V.int i64 n140, V.int i64 n141, V.int i64 n142, V.int i64 n143, V.nilsl, V.str s144]), (1, Ob.var [V.int i64 n145, V.nilsl, V.nilsl, V.int i64 n146, V.int i64 n147, V.int i64 n148, V.int i64 n149, V.own 2, V.str s150]), (2, Ob.arr rI l151 false)], nx := 3 }
def f11s10 (l : List Ev) (n122 : Int) (b152 : Bool) (n153 n154 n155 n156 n157 n158 : Int) (s159 : List UInt8) (n160 : Int) (l161 : List Pt) (l162 : List Bool) (n163 n164 n165 n166 : Int) (s167 : List UInt8) : St := { fr := [(0, V.sl rEvent l), (2, V.ref 0 0 0 0), (5, V.ref 1 0 0 0), (8, V.int i64 n122), (9, V.bool b152), (10, V.int i64 n153)], hp := [(0, Ob.var [V.int i64 n154, V.nilsl, V.nilsl, V.int i64 n155, V.int i64 n156, V.int i64 n157, V.int i64 n158, V.nilsl, V.str s159]), (1, Ob.var [V.int i64 n160, V.sl rPitch l161, V.sl rB l162, V.int i64 n163, V.int i64 n164, V.int i64 n165, V.int i64 n166, V.nilsl, V.str s167])], nx := 2 }
def f11s11 (l : List Ev) (n170 n171 n172 n173 n174 n175 : Int) (s176 : List UInt8) (n177 : Int) (l178 : List Pt) (l179 : List Bool) (n180 n181 n182 n183 : Int) (s184 : List UInt8) (l185 : List Int) : St := { fr := [(0, V.sl rEvent l), (2, V.ref 0 0 0 0), (5, V.ref 1 0 0 0), (8, V.int i64 n170)], hp := [(0, Ob.var [V.int i64 n171, V.nilsl, V.nilsl, V.int i64 n172, V.int i64 n173, V.int i64 n174, V.int i64 n175, V.nilsl, V.str s176]), (1, Ob.var [V.int i64 n177, V.sl rPitch l178, V.sl rB l179, V.int i64 n180, V.int i64 n181, V.int i64 n182, V.int i64 n183, V.own 2, V.str s184]), (2, Ob.arr rI l185 false)], nx := 3 }
def f11s12 (l : List Ev) (n170 : Int) (b186 : Bool) (n187 n188 n189 n190 n191 n192 : Int) (s193 : List UInt8) (n194 : Int) (l195 : List Pt) (l196 : List Bool) (n197 n198 n199 n200 : Int) (s201 : List UInt8) (l202 : List Int) : St := { fr := [(0, V.sl rEvent l), (2, V.ref 0 0 0 0), (5, V.ref 1 0 0 0), (8, V.int i64 n170), (9, V.bool b186), (10, V.int i64 n187)], hp := [(0, Ob.var [V.int i64 n188, V.nilsl, V.nilsl, V.int i64 n189, V.int i64 n190, V.int i64 n191, V.int i64 n192, V.nilsl, V.str s193]), (1, Ob.var [V.int i64 n194, V.sl rPitch l195, V.sl rB l196, V.int i64 n197, V.int i64 n198, V.int i64 n199, V.int i64 n200, V.own 2, V.str s201]), (2, Ob.arr rI l202 false)], nx := 3 }
noncomputable abbrev k11 {Q : Type} (k : V → List Ob → Option Q) := vend (E21 8) 0 (fb Tryd.f11).1.results.toList false k
theorem f11_go (l : List Ev) :
 vseg (E21 8) f11cuts 0 J (k11 kk) 100000 true [.code (fb Tryd.f11).2] (start ([V.sl rEvent l]) ([])) =
 (bif decide ((↑l.length : Int) = (0 : Int)) then
 kk (V.tuple [V.agg [V.int i64 (0 : Int), V.nilsl, V.nilsl, V.int i64 (0 : Int), V.int i64 (0 : Int), V.int i64 (0 : Int), V.int i64 (0 : Int), V.nilsl, V.str []], V.int i64 (2 : Int)]) ([])
 else J f11t4 (f11s0 l (0 : Int) (0 : Int) (0 : Int) (0 : Int) (0 : Int) (0 : Int) ([]))) := by kernel_rfl
theorem f11_0 (l : List Ev) (n1 n2 n3 n4 n5 n6 : Int) (s7 : List UInt8) :
 vseg (E21 8) f11cuts 0 J (k11 kk) 100000 true f11t4 (f11s0 l n1 n2 n3 n4 n5 n6 s7) =
 (bif decide (n1 < (↑l.length : Int)) then
 (match idx l n1 with
 | some y8 => (bif Ev.okm y8 then
 (bif !Ev.right y8 then
 kk (V.tuple [V.agg [V.int i64 (0 : Int), V.nilsl, V.nilsl, V.int i64 (0 : Int), V.int i64 (0 : Int), V.int i64 (0 : Int), V.int i64 (0 : Int), V.nilsl, V.str []], V.int i64 (60 : Int)]) ([])
 else J f11t4 (f11s0 l (i64.wrap (n1 + (1 : Int))) n2 n3 n4 n5 n6 s7))
 else none)
 | none => none)
 else (match idx l (0 : Int) with
 | some y9 => J f11t10 (f11s1 l (0 : Int) n2 n3 n4 n5 n6 s7 (0 : Int) (y9.snd.snd.snd.fst) (y9.snd.snd.snd.snd.fst) (y9.snd.snd.snd.snd.snd.fst) (y9.snd.snd.snd.snd.snd.snd.fst) ([]))
 | none => none)) := by kernel_rfl
theorem f11_1 (l : List Ev) (n10 n11 n12 n13 n14 n15 : Int) (s16 : List UInt8) (n17 n18 n19 n20 n21 : Int) (s22 : List UInt8) :
 vseg (E21 8) f11cuts 0 J (k11 kk) 100000 true f11t10 (f11s1 l n10 n11 n12 n13 n14 n15 s16 n17 n18 n19 n20 n21 s22) =
 (bif decide (n10 < (↑l.length : Int)) then
 (match idx l n10 with
 | some y23 => (bif !(decide (y23.snd.snd.snd.fst = n18) && (decide (y23.snd.snd.snd.snd.fst = n19) && (decide (y23.snd.snd.snd.snd.snd.fst = n20) && decide (y23.snd.snd.snd.snd.snd.snd.fst = n21)))) then
 kk (V.tuple [V.agg [V.int i64 (0 : Int), V.nilsl, V.nilsl, V.int i64 (0 : Int), V.int i64 (0 : Int), V.int i64 (0 : Int), V.int i64 (0 : Int), V.nilsl, V.str []], V.int i64 (2 : Int)]) ([])
 else (bif s22 == ([] : List UInt8) then
 (match idx l n10 with
 | some y24 => J f11t17 (f11s2 l n10 (0 : Int) n11 n12 n13 n14 n15 s16 n17 n18 n19 n20 n21 (y24.snd.snd.snd.snd.snd.snd.snd.snd))
 | none => none)
 else J f11t17 (f11s2 l n10 (0 : Int) n11 n12 n13 n14 n15 s16 n17 n18 n19 n20 n21 s22)))
 | none => none)
 else J f11t22 (f11s3 l (1 : Int) n11 n12 n13 n14 n15 s16 n17 n18 n19 n20 n21 s22)) := by kernel_rfl
theorem f11_2 (l : List Ev) (n10 n25 n26 n27 n28 n29 n30 : Int) (s31 : List UInt8) (n32 n33 n34 n35 n36 : Int) (s37 : List UInt8) :
 vseg (E21 8) f11cuts 0 J (k11 kk) 100000 true f11t17 (f11s2 l n10 n25 n26 n27 n28 n29 n30 s31 n32 n33 n34 n35 n36 s37) =
 (match idx l n10 with
 | some y51 => (bif decide (n25 < (↑(List.length y51.snd.fst) : Int)) then
 (match idx l n10 with
 | some y52 => (match idx y52.snd.fst n25 with
 | some y53 => (match idx l n10 with
 | some y54 => (match idx y54.snd.snd.fst n25 with
 | some y55 => J f11t17 (f11s4 l n10 (i64.wrap (n25 + (1 : Int))) n26 n27 n28 n29 n30 s31 (1 : Int) ((putP y53 y55 [] []).fst) ((putP y53 y55 [] []).snd) n33 n34 n35 n36 s37)
 | none => none)
 | none => none)
 | none => none)
 | none => none)
 else J f11t10 (f11s1 l (i64.wrap (n10 + (1 : Int))) n26 n27 n28 n29 n30 s31 n32 n33 n34 n35 n36 s37))
 | none => none) := by kernel_rfl
theorem f11_3 (l : List Ev) (n38 n39 n40 n41 n42 n43 : Int) (s44 : List UInt8) (n45 n46 n47 n48 n49 : Int) (s50 : List UInt8) :
 vseg (E21 8) f11cuts 0 J (k11 kk) 100000 true f11t22 (f11s3 l n38 n39 n40 n41 n42 n43 s44 n45 n46 n47 n48 n49 s50) =
 (bif decide (n38 ≤ (4 : Int)) then
 J f11t26 (f11s5 l n38 (false) (0 : Int) n39 n40 n41 n42 n43 s44 n45 n46 n47 n48 n49 s50)
 else (bif !Ev.right (n45, [], [], n46, n47, n48, n49, [], s50) then
 kk (V.tuple [V.agg [V.int i64 (0 : Int), V.nilsl, V.nilsl, V.int i64 (0 : Int), V.int i64 (0 : Int), V.int i64 (0 : Int), V.int i64 (0 : Int), V.nilsl, V.str []], V.int i64 (60 : Int)]) ([])
 else kk (V.tuple [V.agg [V.int i64 n45, V.nilsl, V.nilsl, V.int i64 n46, V.int i64 n47, V.int i64 n48, V.int i64 n49, V.nilsl, V.str s50], V.int i64 (0 : Int)]) ([]))) := by kernel_rfl
theorem f11_4 (l : List Ev) (n10 n56 n57 n58 n59 n60 n61 : Int) (s62 : List UInt8) (n63 : Int) (l64 : List Pt) (l65 : List Bool) (n66 n67 n68 n69 : Int) (s70 : List UInt8) :
 vseg (E21 8) f11cuts 0 J (k11 kk) 100000 true f11t17 (f11s4 l n10 n56 n57 n58 n59 n60 n61 s62 n63 l64 l65 n66 n67 n68 n69 s70) =
 (match idx l n10 with
 | some y85 => (bif decide (n56 < (↑(List.length y85.snd.fst) : Int)) then
 (match idx l n10 with
 | some y86 => (match idx y86.snd.fst n56 with
 | some y87 => (match idx l n10 with
 | some y88 => (match idx y88.snd.snd.fst n56 with
 | some y89 => (bif okPut l64 l65 then
 J f11t17 (f11s4 l n10 (i64.wrap (n56 + (1 : Int))) n57 n58 n59 n60 n61 s62 (1 : Int) ((putP y87 y89 l64 l65).fst) ((putP y87 y89 l64 l65).snd) n66 n67 n68 n69 s70)
 else none)
 | none => none)
 | none => none)
 | none => none)
 | none => none)
 else J f11t10 (f11s6 l (i64.wrap (n10 + (1 : Int))) n57 n58 n59 n60 n61 s62 n63 l64 l65 n66 n67 n68 n69 s70))
 | none => none) := by kernel_rfl
theorem f11_5 (l : List Ev) (n38 : Int) (b71 : Bool) (n72 n73 n74 n75 n76 n77 : Int) (s78 : List UInt8) (n79 n80 n81 n82 n83 : Int) (s84 : List UInt8) :
 vseg (E21 8) f11cuts 0 J (k11 kk) 100000 true f11t26 (f11s5 l n38 b71 n72 n73 n74 n75 n76 n77 s78 n79 n80 n81 n82 n83 s84) =
 (bif decide (n72 < (↑l.length : Int)) then
 (bif b71 then
 J f11t26 (f11s5 l n38 (true) (i64.wrap (n72 + (1 : Int))) n73 n74 n75 n76 n77 s78 n79 n80 n81 n82 n83 s84)
 else (match idx l n72 with
 | some y105 => (bif decide (List.length y105.snd.snd.snd.snd.snd.snd.snd.fst < (4611686018427387904 : Nat)) then
 J f11t26 (f11s5 l n38 (List.any y105.snd.snd.snd.snd.snd.snd.snd.fst fun m => decide (m = n38)) (i64.wrap (n72 + (1 : Int))) n73 n74 n75 n76 n77 s78 n79 n80 n81 n82 n83 s84)
 else none)
 | none => none))
 else (bif b71 then
 J f11t22 (f11s7 l (i64.wrap (n38 + (1 : Int))) n73 n74 n75 n76 n77 s78 n79 n80 n81 n82 n83 s84 ([n38]))
 else J f11t22 (f11s3 l (i64.wrap (n38 + (1 : Int))) n73 n74 n75 n76 n77 s78 n79 n80 n81 n82 n83 s84))) := by kernel_rfl
theorem f11_6 (l : List Ev) (n90 n91 n92 n93 n94 n95 : Int) (s96 : List UInt8) (n97 : Int) (l98 : List Pt) (l99 : List Bool) (n100 n101 n102 n103 : Int) (s104 : List UInt8) :
 vseg (E21 8) f11cuts 0 J (k11 kk) 100000 true f11t10 (f11s6 l n90 n91 n92 n93 n94 n95 s96 n97 l98 l99 n100 n101 n102 n103 s104) =
 (bif decide (n90 < (↑l.length : Int)) then
 (match idx l n90 with
 | some y120 => (bif !(decide (y120.snd.snd.snd.fst = n100) && (decide (y120.snd.snd.snd.snd.fst = n101) && (decide (y120.snd.snd.snd.snd.snd.fst = n102) && decide (y120.snd.snd.snd.snd.snd.snd.fst = n103)))) then
 kk (V.tuple [V.agg [V.int i64 (0 : Int), V.nilsl, V.nilsl, V.int i64 (0 : Int), V.int i64 (0 : Int), V.int i64 (0 : Int), V.int i64 (0 : Int), V.nilsl, V.str []], V.int i64 (2 : Int)]) ([])
 else (bif s104 == ([] : List UInt8) then
 (match idx l n90 with
 | some y121 => J f11t17 (f11s4 l n90 (0 : Int) n91 n92 n93 n94 n95 s96 n97 l98 l99 n100 n101 n102 n103 (y121.snd.snd.snd.snd.snd.snd.snd.snd))
 | none => none)
 else J f11t17 (f11s4 l n90 (0 : Int) n91 n92 n93 n94 n95 s96 n97 l98 l99 n100 n101 n102 n103 s104)))
 | none => none)
 else J f11t22 (f11s8 l (1 : Int) n91 n92 n93 n94 n95 s96 n97 l98 l99 n100 n101 n102 n103 s104)) := by kernel_rfl
theorem f11_7 (l : List Ev) (n106 n107 n108 n109 n110 n111 : Int) (s112 : List UInt8) (n113 n114 n115 n116 n117 : Int) (s118 : List UInt8) (l119 : List Int) :
 vseg (E21 8) f11cuts 0 J (k11 kk) 100000 true f11t22 (f11s7 l n106 n107 n108 n109 n110 n111 s112 n113 n114 n115 n116 n117 s118 l119) =
 (bif decide (n106 ≤ (4 : Int)) then
 J f11t26 (f11s9 l n106 (false) (0 : Int) n107 n108 n109 n110 n111 s112 n113 n114 n115 n116 n117 s118 l119)
 else (bif Ev.okm (n113, [], [], n114, n115, n116, n117, l119, s118) then
 (bif !Ev.right (n113, [], [], n114, n115, n116, n117, l119, s118) then
 kk (V.tuple [V.agg [V.int i64 (0 : Int), V.nilsl, V.nilsl, V.int i64 (0 : Int), V.int i64 (0 : Int), V.int i64 (0 : Int), V.int i64 (0 : Int), V.nilsl, V.str []], V.int i64 (60 : Int)]) ([])
 else kk (V.tuple [V.agg [V.int i64 n113, V.nilsl, V.nilsl, V.int i64 n114, V.int i64 n115, V.int i64 n116, V.int i64 n117, V.sl rI l119, V.str s118], V.int i64 (0 : Int)]) ([]))
 else none)) := by kernel_rfl
theorem f11_8 (l : List Ev) (n122 n123 n124 n125 n126 n127 : Int) (s128 : List UInt8) (n129 : Int) (l130 : List Pt) (l131 : List Bool) (n132 n133 n134 n135 : Int) (s136 : List UInt8) :
 vseg (E21 8) f11cuts 0 J (k11 kk) 100000 true f11t22 (f11s8 l n122 n123 n124 n125 n126 n127 s128 n129 l130 l131 n132 n133 n134 n135 s136) =
 (bif decide (n122 ≤ (4 : Int)) then
 J f11t26 (f11s10 l n122 (false) (0 : Int) n123 n124 n125 n126 n127 s128 n129 l130 l131 n132 n133 n134 n135 s136)
 else (bif !Ev.right (n129, l130, l131, n132, n133, n134, n135, [], s136) then
 kk (V.tuple [V.agg [V.int i64 (0 : Int), V.nilsl, V.nilsl, V.int i64 (0 : Int), V.int i64 (0 : Int), V.int i64 (0 : Int), V.int i64 (0 : Int), V.nilsl, V.str []], V.int i64 (60 : Int)]) ([])
 else kk (V.tuple [V.agg [V.int i64 n129, V.sl rPitch l130, V.sl rB l131, V.int i64 n132, V.int i64 n133, V.int i64 n134, V.int i64 n135, V.nilsl, V.str s136], V.int i64 (0 : Int)]) ([]))) := by kernel_rfl
theorem f11_9 (l : List Ev) (n106 : Int) (b137 : Bool) (n138 n139 n140 n141 n142 n143 : Int) (s144 : List UInt8) (n145 n146 n147 n148 n149 : Int) (s150 : List UInt8) (l151 : List Int) :
 vseg (E21 8) f11cuts 0 J (k11 kk) 100000 true f11t26 (f11s9 l n106 b137 n138 n139 n140 n141 n142 n143 s144 n145 n146 n147 n148 n149 s150 l151) =
 (bif decide (n138 < (↑l.length : Int)) then
 (bif b137 then
 J f11t26 (f11s9 l n106 (true) (i64.wrap (n138 + (1 : Int))) n139 n140 n141 n142 n143 s144 n145 n146 n147 n148 n149 s150 l151)
 else (match idx l n138 with
 | some y168 => (bif decide (List.length y168.snd.snd.snd.snd.snd.snd.snd.fst < (4611686018427387904 : Nat)) then
 J f11t26 (f11s9 l n106 (List.any y168.snd.snd.snd.snd.snd.snd.snd.fst fun m => decide (m = n106)) (i64.wrap (n138 + (1 : Int))) n139 n140 n141 n142 n143 s144 n145 n146 n147 n148 n149 s150 l151)
 else none)
 | none => none))
 else (bif b137 then
 (bif decide ((l151.length + 1) * 8 ≤ bytesMost) then
 J f11t22 (f11s7 l (i64.wrap (n106 + (1 : Int))) n139 n140 n141 n142 n143 s144 n145 n146 n147 n148 n149 s150 (l151 ++ [n106]))
 else none)
 else J f11t22 (f11s7 l (i64.wrap (n106 + (1 : Int))) n139 n140 n141 n142 n143 s144 n145 n146 n147 n148 n149 s150 l151))) := by kernel_rfl
theorem f11_10 (l : List Ev) (n122 : Int) (b152 : Bool) (n153 n154 n155 n156 n157 n158 : Int) (s159 : List UInt8) (n160 : Int) (l161 : List Pt) (l162 : List Bool) (n163 n164 n165 n166 : Int) (s167 : List UInt8) :
 vseg (E21 8) f11cuts 0 J (k11 kk) 100000 true f11t26 (f11s10 l n122 b152 n153 n154 n155 n156 n157 n158 s159 n160 l161 l162 n163 n164 n165 n166 s167) =
 (bif decide (n153 < (↑l.length : Int)) then
 (bif b152 then
 J f11t26 (f11s10 l n122 (true) (i64.wrap (n153 + (1 : Int))) n154 n155 n156 n157 n158 s159 n160 l161 l162 n163 n164 n165 n166 s167)
 else (match idx l n153 with
 | some y169 => (bif decide (List.length y169.snd.snd.snd.snd.snd.snd.snd.fst < (4611686018427387904 : Nat)) then
 J f11t26 (f11s10 l n122 (List.any y169.snd.snd.snd.snd.snd.snd.snd.fst fun m => decide (m = n122)) (i64.wrap (n153 + (1 : Int))) n154 n155 n156 n157 n158 s159 n160 l161 l162 n163 n164 n165 n166 s167)
 else none)
 | none => none))
 else (bif b152 then
 J f11t22 (f11s11 l (i64.wrap (n122 + (1 : Int))) n154 n155 n156 n157 n158 s159 n160 l161 l162 n163 n164 n165 n166 s167 ([n122]))
 else J f11t22 (f11s8 l (i64.wrap (n122 + (1 : Int))) n154 n155 n156 n157 n158 s159 n160 l161 l162 n163 n164 n165 n166 s167))) := by kernel_rfl
theorem f11_11 (l : List Ev) (n170 n171 n172 n173 n174 n175 : Int) (s176 : List UInt8) (n177 : Int) (l178 : List Pt) (l179 : List Bool) (n180 n181 n182 n183 : Int) (s184 : List UInt8) (l185 : List Int) :
 vseg (E21 8) f11cuts 0 J (k11 kk) 100000 true f11t22 (f11s11 l n170 n171 n172 n173 n174 n175 s176 n177 l178 l179 n180 n181 n182 n183 s184 l185) =
 (bif decide (n170 ≤ (4 : Int)) then
 J f11t26 (f11s12 l n170 (false) (0 : Int) n171 n172 n173 n174 n175 s176 n177 l178 l179 n180 n181 n182 n183 s184 l185)
 else (bif Ev.okm (n177, l178, l179, n180, n181, n182, n183, l185, s184) then
 (bif !Ev.right (n177, l178, l179, n180, n181, n182, n183, l185, s184) then
 kk (V.tuple [V.agg [V.int i64 (0 : Int), V.nilsl, V.nilsl, V.int i64 (0 : Int), V.int i64 (0 : Int), V.int i64 (0 : Int), V.int i64 (0 : Int), V.nilsl, V.str []], V.int i64 (60 : Int)]) ([])
 else kk (V.tuple [V.agg [V.int i64 n177, V.sl rPitch l178, V.sl rB l179, V.int i64 n180, V.int i64 n181, V.int i64 n182, V.int i64 n183, V.sl rI l185, V.str s184], V.int i64 (0 : Int)]) ([]))
 else none)) := by kernel_rfl
theorem f11_12 (l : List Ev) (n170 : Int) (b186 : Bool) (n187 n188 n189 n190 n191 n192 : Int) (s193 : List UInt8) (n194 : Int) (l195 : List Pt) (l196 : List Bool) (n197 n198 n199 n200 : Int) (s201 : List UInt8) (l202 : List Int) :
 vseg (E21 8) f11cuts 0 J (k11 kk) 100000 true f11t26 (f11s12 l n170 b186 n187 n188 n189 n190 n191 n192 s193 n194 l195 l196 n197 n198 n199 n200 s201 l202) =
 (bif decide (n187 < (↑l.length : Int)) then
 (bif b186 then
 J f11t26 (f11s12 l n170 (true) (i64.wrap (n187 + (1 : Int))) n188 n189 n190 n191 n192 s193 n194 l195 l196 n197 n198 n199 n200 s201 l202)
 else (match idx l n187 with
 | some y203 => (bif decide (List.length y203.snd.snd.snd.snd.snd.snd.snd.fst < (4611686018427387904 : Nat)) then
 J f11t26 (f11s12 l n170 (List.any y203.snd.snd.snd.snd.snd.snd.snd.fst fun m => decide (m = n170)) (i64.wrap (n187 + (1 : Int))) n188 n189 n190 n191 n192 s193 n194 l195 l196 n197 n198 n199 n200 s201 l202)
 else none)
 | none => none))
 else (bif b186 then
 (bif decide ((l202.length + 1) * 8 ≤ bytesMost) then
 J f11t22 (f11s11 l (i64.wrap (n170 + (1 : Int))) n188 n189 n190 n191 n192 s193 n194 l195 l196 n197 n198 n199 n200 s201 (l202 ++ [n170]))
 else none)
 else J f11t22 (f11s11 l (i64.wrap (n170 + (1 : Int))) n188 n189 n190 n191 n192 s193 n194 l195 l196 n197 n198 n199 n200 s201 l202))) := by kernel_rfl
end Vm.S6b
open Go Go.Proofs
namespace Vm.S6b
def Go11 (kk : V → List Ob → Option (V × List Ob)) (t : List Item) (s : St) (r : Ev × Int) : Prop := ∃ N v, canon2 true rEvent v = some (r.1, .int .i64 r.2) ∧ vrun (E21 8) f11cuts 0 100000 (k11 kk) N t s = kk v []
theorem Go11.step {kk : V → List Ob → Option (V × List Ob)} {t t' : List Item} {s s' : St} {r : Ev × Int} (h : Go11 kk t' s' r) (e : ∀ N, vrun (E21 8) f11cuts 0 100000 (k11 kk) (N + 1) t s = vrun (E21 8) f11cuts 0 100000 (k11 kk) N t' s') : Go11 kk t s r := by
 obtain ⟨N, v, h1, h2⟩ := h
 exact ⟨N + 1, v, h1, (e N).trans h2⟩
theorem canon_ev (k : Int) (ps : List Pt) (ts : List Bool) (a b c e : Int) (ms : List Int) (w : List UInt8) (n : Int) : canon2 true rEvent (.tuple [.agg [.int .i64 k, .sl rPitch ps, .sl rB ts, .int .i64 a, .int .i64 b, .int .i64 c, .int .i64 e, .sl rI ms, .str w], .int .i64 n]) = some (((k, ps, ts, a, b, c, e, ms, w) : Ev), .int .i64 n) := rfl
theorem canon_ev0 (k : Int) (ps : List Pt) (ts : List Bool) (a b c e : Int) (w : List UInt8) (n : Int) : canon2 true rEvent (.tuple [.agg [.int .i64 k, .sl rPitch ps, .sl rB ts, .int .i64 a, .int .i64 b, .int .i64 c, .int .i64 e, .nilsl, .str w], .int .i64 n]) = some (((k, ps, ts, a, b, c, e, [], w) : Ev), .int .i64 n) := rfl
theorem canon_ev1 (k : Int) (a b c e : Int) (ms : List Int) (w : List UInt8) (n : Int) : canon2 true rEvent (.tuple [.agg [.int .i64 k, .nilsl, .nilsl, .int .i64 a, .int .i64 b, .int .i64 c, .int .i64 e, .sl rI ms, .str w], .int .i64 n]) = some (((k, [], [], a, b, c, e, ms, w) : Ev), .int .i64 n) := rfl
theorem canon_ev2 (k : Int) (a b c e : Int) (w : List UInt8) (n : Int) : canon2 true rEvent (.tuple [.agg [.int .i64 k, .nilsl, .nilsl, .int .i64 a, .int .i64 b, .int .i64 c, .int .i64 e, .nilsl, .str w], .int .i64 n]) = some (((k, [], [], a, b, c, e, [], w) : Ev), .int .i64 n) := rfl
theorem okm_of {k : Int} {ps : List Pt} {ts : List Bool} {a b c e : Int} {ms : List Int} {w : List UInt8} (h : ms.length ≤ 1000) : Ev.okm (k, ps, ts, a, b, c, e, ms, w) = true := by
 unfold Ev.okm
 exact decide_eq_true (show ms.length < 4611686018427387904 by omega)
theorem valEq (y : Ev) (a b c e : Int) : (!(decide (y.2.2.2.1 = a) && (decide (y.2.2.2.2.1 = b) && (decide (y.2.2.2.2.2.1 = c) && decide (y.2.2.2.2.2.2.1 = e))))) = !decide (y.val = (a, b, c, e)) := by
 congr 1
 simp only [Ev.val, Prod.mk.injEq, ← Bool.decide_and]
theorem idxL {l : List Ev} {i : Nat} (h : i < l.length) : idx l (i : Int) = some l[i] := by rw [idx_nat, List.getElem?_eq_getElem h]
theorem putL_len : ∀ (ps : List Pt) (ts : List Bool) (r : List Pt × List Bool), r.2.length = r.1.length → (putL ps ts r).2.length = (putL ps ts r).1.length ∧ (putL ps ts r).1.length ≤ r.1.length + ps.length
 | [], _, r, h => by simp only [putL]; exact ⟨h, by omega⟩
 | p :: ps, [], r, h => by simp only [putL]; exact ⟨h, by omega⟩
 | p :: ps, t :: ts, r, h => by
   have h1 := putP_len p t r.1 r.2 h
   have h2 := putL_len ps ts (putP p t r.1 r.2) h1.1
   simp only [putL, List.length_cons]
   omega
section
variable (kk : V → List Ob → Option (V × List Ob)) (l : List Ev) (ho : l.length ≤ 100) (hm : ∀ e ∈ l, Ev.okm e = true)
include ho hm
theorem f11_iB (m : Nat) (hm4 : m ≤ 4) (k a b c e : Int) (w : List UInt8) (ms : List Int) (h : ms.length ≤ 4) (r : Ev × Int) : ∀ (d i : Nat) (bb : Bool), i + d = l.length →
  ((bb || hasM (l.drop i) m) = true → Go11 kk f11t22 (f11s7 l ((m + 1 : Nat) : Int) 0 0 0 0 0 [] k a b c e w (ms ++ [(m : Int)])) r) → (¬ (bb || hasM (l.drop i) m) = true → Go11 kk f11t22 (f11s7 l ((m + 1 : Nat) : Int) 0 0 0 0 0 [] k a b c e w ms) r) →
  Go11 kk f11t26 (f11s9 l m bb i 0 0 0 0 0 [] k a b c e w ms) r := by
 intro d
 induction d with
 | zero =>
   intro i bb hi h1 h2
   rw [List.drop_eq_nil_of_le (by omega)] at h1 h2
   cases bb with
   | true =>
     refine (h1 rfl).step fun N => ?_
     rw [vrun_succ, f11_9, bif_neg (by exact decide_eq_false (by omega)), cond_true, wrap_succ (by omega)]
     rw [bif_pos (by exact decide_eq_true (by simp [bytesMost]; omega))]
   | false =>
     refine (h2 (by simp [hasM])).step fun N => ?_
     rw [vrun_succ, f11_9, bif_neg (by exact decide_eq_false (by omega)), cond_false, wrap_succ (by omega)]
 | succ d ih =>
   intro i bb hi h1 h2
   have hlt : i < l.length := by omega
   have eh : hasM (l.drop i) m = (l[i].marks.any (fun x => decide (x = (m : Int))) || hasM (l.drop (i + 1)) m) := by
    rw [List.drop_eq_getElem_cons hlt]; rfl
   rw [eh] at h1 h2
   cases bb with
   | true =>
     refine (ih (i + 1) true (by omega) (fun _ => h1 rfl) (fun h => absurd rfl h)).step fun N => ?_
     rw [vrun_succ, f11_9, bif_pos (by exact decide_eq_true (by omega)), cond_true, wrap_succ (by omega)]
   | false =>
     refine (ih (i + 1) (l[i].marks.any fun x => decide (x = (m : Int))) (by omega) (fun h => h1 (by rw [Bool.false_or]; exact h)) (fun h => h2 (by rw [Bool.false_or]; exact h))).step fun N => ?_
     have hk : decide (List.length l[i].2.2.2.2.2.2.2.1 < 4611686018427387904) = true := hm _ (List.getElem_mem hlt)
     rw [vrun_succ, f11_9, bif_pos (by exact decide_eq_true (by omega)), cond_false, wrap_succ (by omega), idx_nat, List.getElem?_eq_getElem hlt]
     dsimp only
     rw [hk, cond_true]
     rfl
theorem f11_oB : ∀ (d m : Nat) (k a b c e : Int) (w : List UInt8) (ms : List Int) , 1 ≤ m → m + d = 5 → ms.length + d ≤ 4 → Go11 kk f11t22 (f11s7 l m 0 0 0 0 0 [] k a b c e w ms) (finE (k, [], [], a, b, c, e, ms ++ msF l d (m : Int), w)) := by
 intro d
 induction d with
 | zero =>
   intro m k a b c e w ms h1m hd hl
   rw [show msF l 0 (m : Int) = [] from rfl, List.append_nil]
   unfold finE
   cases hr : Ev.right (k, [], [], a, b, c, e, ms, w) with
   | true =>
     rw [if_pos rfl]
     refine ⟨1, _, canon_ev1 .., ?_⟩
     rw [vrun_succ, f11_7, bif_neg (by exact decide_eq_false (by omega))]
     rw [okm_of (by omega), cond_true]
     rw [hr]
     rfl
   | false =>
     rw [if_neg (by decide)]
     refine ⟨1, _, canon_zEv 60, ?_⟩
     rw [vrun_succ, f11_7, bif_neg (by exact decide_eq_false (by omega))]
     rw [okm_of (by omega), cond_true]
     rw [hr]
     rfl
 | succ d ih =>
   intro m k a b c e w ms h1m hd hl
   have hi := f11_iB kk l ho hm m (by omega) k a b c e w ms (by omega) (finE (k, [], [], a, b, c, e, ms ++ msF l (d + 1) (m : Int), w)) l.length 0 false (by omega) (fun h => ?_) (fun h => ?_)
   ·refine hi.step fun N => ?_
    rw [vrun_succ, f11_7, bif_pos (by exact decide_eq_true (by omega))]
    rfl
   ·rw [List.drop_zero, Bool.false_or] at h
    rw [show msF l (d + 1) (m : Int) = [(m : Int)] ++ msF l d ((m + 1 : Nat) : Int) from by simp only [msF]; rw [if_pos h]; rfl]
    rw [← List.append_assoc]; exact ih (m + 1) k a b c e w (ms ++ [(m : Int)]) (by omega) (by omega) (by simp; omega)
   ·rw [List.drop_zero, Bool.false_or] at h
    rw [show msF l (d + 1) (m : Int) = msF l d ((m + 1 : Nat) : Int) from by simp only [msF]; rw [if_neg h]; rfl]
    exact ih (m + 1) k a b c e w ms (by omega) (by omega) (by omega)
theorem f11_iA (m : Nat) (hm4 : m ≤ 4) (k a b c e : Int) (w : List UInt8) (r : Ev × Int) : ∀ (d i : Nat) (bb : Bool), i + d = l.length →
  ((bb || hasM (l.drop i) m) = true → Go11 kk f11t22 (f11s7 l ((m + 1 : Nat) : Int) 0 0 0 0 0 [] k a b c e w [(m : Int)]) r) → (¬ (bb || hasM (l.drop i) m) = true → Go11 kk f11t22 (f11s3 l ((m + 1 : Nat) : Int) 0 0 0 0 0 [] k a b c e w) r) →
  Go11 kk f11t26 (f11s5 l m bb i 0 0 0 0 0 [] k a b c e w) r := by
 intro d
 induction d with
 | zero =>
   intro i bb hi h1 h2
   rw [List.drop_eq_nil_of_le (by omega)] at h1 h2
   cases bb with
   | true =>
     refine (h1 rfl).step fun N => ?_
     rw [vrun_succ, f11_5, bif_neg (by exact decide_eq_false (by omega)), cond_true, wrap_succ (by omega)]
   | false =>
     refine (h2 (by simp [hasM])).step fun N => ?_
     rw [vrun_succ, f11_5, bif_neg (by exact decide_eq_false (by omega)), cond_false, wrap_succ (by omega)]
 | succ d ih =>
   intro i bb hi h1 h2
   have hlt : i < l.length := by omega
   have eh : hasM (l.drop i) m = (l[i].marks.any (fun x => decide (x = (m : Int))) || hasM (l.drop (i + 1)) m) := by
    rw [List.drop_eq_getElem_cons hlt]; rfl
   rw [eh] at h1 h2
   cases bb with
   | true =>
     refine (ih (i + 1) true (by omega) (fun _ => h1 rfl) (fun h => absurd rfl h)).step fun N => ?_
     rw [vrun_succ, f11_5, bif_pos (by exact decide_eq_true (by omega)), cond_true, wrap_succ (by omega)]
   | false =>
     refine (ih (i + 1) (l[i].marks.any fun x => decide (x = (m : Int))) (by omega) (fun h => h1 (by rw [Bool.false_or]; exact h)) (fun h => h2 (by rw [Bool.false_or]; exact h))).step fun N => ?_
     have hk : decide (List.length l[i].2.2.2.2.2.2.2.1 < 4611686018427387904) = true := hm _ (List.getElem_mem hlt)
     rw [vrun_succ, f11_5, bif_pos (by exact decide_eq_true (by omega)), cond_false, wrap_succ (by omega), idx_nat, List.getElem?_eq_getElem hlt]
     dsimp only
     rw [hk, cond_true]
     rfl
theorem f11_oA : ∀ (d m : Nat) (k a b c e : Int) (w : List UInt8) , 1 ≤ m → m + d = 5 → Go11 kk f11t22 (f11s3 l m 0 0 0 0 0 [] k a b c e w) (finE (k, [], [], a, b, c, e, msF l d (m : Int), w)) := by
 intro d
 induction d with
 | zero =>
   intro m k a b c e w h1m hd
   rw [show msF l 0 (m : Int) = [] from rfl]
   unfold finE
   cases hr : Ev.right (k, [], [], a, b, c, e, [], w) with
   | true =>
     rw [if_pos rfl]
     refine ⟨1, _, canon_ev2 .., ?_⟩
     rw [vrun_succ, f11_3, bif_neg (by exact decide_eq_false (by omega))]
     rw [hr]
     rfl
   | false =>
     rw [if_neg (by decide)]
     refine ⟨1, _, canon_zEv 60, ?_⟩
     rw [vrun_succ, f11_3, bif_neg (by exact decide_eq_false (by omega))]
     rw [hr]
     rfl
 | succ d ih =>
   intro m k a b c e w h1m hd
   have hi := f11_iA kk l ho hm m (by omega) k a b c e w (finE (k, [], [], a, b, c, e, msF l (d + 1) (m : Int), w)) l.length 0 false (by omega) (fun h => ?_) (fun h => ?_)
   ·refine hi.step fun N => ?_
    rw [vrun_succ, f11_3, bif_pos (by exact decide_eq_true (by omega))]
    rfl
   ·rw [List.drop_zero, Bool.false_or] at h
    rw [show msF l (d + 1) (m : Int) = [(m : Int)] ++ msF l d ((m + 1 : Nat) : Int) from by simp only [msF]; rw [if_pos h]; rfl]
    exact f11_oB kk l ho hm d (m + 1) k a b c e w [(m : Int)] (by omega) (by omega) (by simp; omega)
   ·rw [List.drop_zero, Bool.false_or] at h
    rw [show msF l (d + 1) (m : Int) = msF l d ((m + 1 : Nat) : Int) from by simp only [msF]; rw [if_neg h]; rfl]
    exact ih (m + 1) k a b c e w (by omega) (by omega)
theorem f11_iD (m : Nat) (hm4 : m ≤ 4) (k : Int) (ps : List Pt) (ts : List Bool) (a b c e : Int) (w : List UInt8) (ms : List Int) (h : ms.length ≤ 4) (r : Ev × Int) : ∀ (d i : Nat) (bb : Bool), i + d = l.length →
  ((bb || hasM (l.drop i) m) = true → Go11 kk f11t22 (f11s11 l ((m + 1 : Nat) : Int) 0 0 0 0 0 [] k ps ts a b c e w (ms ++ [(m : Int)])) r) → (¬ (bb || hasM (l.drop i) m) = true → Go11 kk f11t22 (f11s11 l ((m + 1 : Nat) : Int) 0 0 0 0 0 [] k ps ts a b c e w ms) r) →
  Go11 kk f11t26 (f11s12 l m bb i 0 0 0 0 0 [] k ps ts a b c e w ms) r := by
 intro d
 induction d with
 | zero =>
   intro i bb hi h1 h2
   rw [List.drop_eq_nil_of_le (by omega)] at h1 h2
   cases bb with
   | true =>
     refine (h1 rfl).step fun N => ?_
     rw [vrun_succ, f11_12, bif_neg (by exact decide_eq_false (by omega)), cond_true, wrap_succ (by omega)]
     rw [bif_pos (by exact decide_eq_true (by simp [bytesMost]; omega))]
   | false =>
     refine (h2 (by simp [hasM])).step fun N => ?_
     rw [vrun_succ, f11_12, bif_neg (by exact decide_eq_false (by omega)), cond_false, wrap_succ (by omega)]
 | succ d ih =>
   intro i bb hi h1 h2
   have hlt : i < l.length := by omega
   have eh : hasM (l.drop i) m = (l[i].marks.any (fun x => decide (x = (m : Int))) || hasM (l.drop (i + 1)) m) := by
    rw [List.drop_eq_getElem_cons hlt]; rfl
   rw [eh] at h1 h2
   cases bb with
   | true =>
     refine (ih (i + 1) true (by omega) (fun _ => h1 rfl) (fun h => absurd rfl h)).step fun N => ?_
     rw [vrun_succ, f11_12, bif_pos (by exact decide_eq_true (by omega)), cond_true, wrap_succ (by omega)]
   | false =>
     refine (ih (i + 1) (l[i].marks.any fun x => decide (x = (m : Int))) (by omega) (fun h => h1 (by rw [Bool.false_or]; exact h)) (fun h => h2 (by rw [Bool.false_or]; exact h))).step fun N => ?_
     have hk : decide (List.length l[i].2.2.2.2.2.2.2.1 < 4611686018427387904) = true := hm _ (List.getElem_mem hlt)
     rw [vrun_succ, f11_12, bif_pos (by exact decide_eq_true (by omega)), cond_false, wrap_succ (by omega), idx_nat, List.getElem?_eq_getElem hlt]
     dsimp only
     rw [hk, cond_true]
     rfl
theorem f11_oD : ∀ (d m : Nat) (k : Int) (ps : List Pt) (ts : List Bool) (a b c e : Int) (w : List UInt8) (ms : List Int) , 1 ≤ m → m + d = 5 → ms.length + d ≤ 4 → Go11 kk f11t22 (f11s11 l m 0 0 0 0 0 [] k ps ts a b c e w ms) (finE (k, ps, ts, a, b, c, e, ms ++ msF l d (m : Int), w)) := by
 intro d
 induction d with
 | zero =>
   intro m k ps ts a b c e w ms h1m hd hl
   rw [show msF l 0 (m : Int) = [] from rfl, List.append_nil]
   unfold finE
   cases hr : Ev.right (k, ps, ts, a, b, c, e, ms, w) with
   | true =>
     rw [if_pos rfl]
     refine ⟨1, _, canon_ev .., ?_⟩
     rw [vrun_succ, f11_11, bif_neg (by exact decide_eq_false (by omega))]
     rw [okm_of (by omega), cond_true]
     rw [hr]
     rfl
   | false =>
     rw [if_neg (by decide)]
     refine ⟨1, _, canon_zEv 60, ?_⟩
     rw [vrun_succ, f11_11, bif_neg (by exact decide_eq_false (by omega))]
     rw [okm_of (by omega), cond_true]
     rw [hr]
     rfl
 | succ d ih =>
   intro m k ps ts a b c e w ms h1m hd hl
   have hi := f11_iD kk l ho hm m (by omega) k ps ts a b c e w ms (by omega) (finE (k, ps, ts, a, b, c, e, ms ++ msF l (d + 1) (m : Int), w)) l.length 0 false (by omega) (fun h => ?_) (fun h => ?_)
   ·refine hi.step fun N => ?_
    rw [vrun_succ, f11_11, bif_pos (by exact decide_eq_true (by omega))]
    rfl
   ·rw [List.drop_zero, Bool.false_or] at h
    rw [show msF l (d + 1) (m : Int) = [(m : Int)] ++ msF l d ((m + 1 : Nat) : Int) from by simp only [msF]; rw [if_pos h]; rfl]
    rw [← List.append_assoc]; exact ih (m + 1) k ps ts a b c e w (ms ++ [(m : Int)]) (by omega) (by omega) (by simp; omega)
   ·rw [List.drop_zero, Bool.false_or] at h
    rw [show msF l (d + 1) (m : Int) = msF l d ((m + 1 : Nat) : Int) from by simp only [msF]; rw [if_neg h]; rfl]
    exact ih (m + 1) k ps ts a b c e w ms (by omega) (by omega) (by omega)
theorem f11_iC (m : Nat) (hm4 : m ≤ 4) (k : Int) (ps : List Pt) (ts : List Bool) (a b c e : Int) (w : List UInt8) (r : Ev × Int) : ∀ (d i : Nat) (bb : Bool), i + d = l.length →
  ((bb || hasM (l.drop i) m) = true → Go11 kk f11t22 (f11s11 l ((m + 1 : Nat) : Int) 0 0 0 0 0 [] k ps ts a b c e w [(m : Int)]) r) → (¬ (bb || hasM (l.drop i) m) = true → Go11 kk f11t22 (f11s8 l ((m + 1 : Nat) : Int) 0 0 0 0 0 [] k ps ts a b c e w) r) →
  Go11 kk f11t26 (f11s10 l m bb i 0 0 0 0 0 [] k ps ts a b c e w) r := by
 intro d
 induction d with
 | zero =>
   intro i bb hi h1 h2
   rw [List.drop_eq_nil_of_le (by omega)] at h1 h2
   cases bb with
   | true =>
     refine (h1 rfl).step fun N => ?_
     rw [vrun_succ, f11_10, bif_neg (by exact decide_eq_false (by omega)), cond_true, wrap_succ (by omega)]
   | false =>
     refine (h2 (by simp [hasM])).step fun N => ?_
     rw [vrun_succ, f11_10, bif_neg (by exact decide_eq_false (by omega)), cond_false, wrap_succ (by omega)]
 | succ d ih =>
   intro i bb hi h1 h2
   have hlt : i < l.length := by omega
   have eh : hasM (l.drop i) m = (l[i].marks.any (fun x => decide (x = (m : Int))) || hasM (l.drop (i + 1)) m) := by
    rw [List.drop_eq_getElem_cons hlt]; rfl
   rw [eh] at h1 h2
   cases bb with
   | true =>
     refine (ih (i + 1) true (by omega) (fun _ => h1 rfl) (fun h => absurd rfl h)).step fun N => ?_
     rw [vrun_succ, f11_10, bif_pos (by exact decide_eq_true (by omega)), cond_true, wrap_succ (by omega)]
   | false =>
     refine (ih (i + 1) (l[i].marks.any fun x => decide (x = (m : Int))) (by omega) (fun h => h1 (by rw [Bool.false_or]; exact h)) (fun h => h2 (by rw [Bool.false_or]; exact h))).step fun N => ?_
     have hk : decide (List.length l[i].2.2.2.2.2.2.2.1 < 4611686018427387904) = true := hm _ (List.getElem_mem hlt)
     rw [vrun_succ, f11_10, bif_pos (by exact decide_eq_true (by omega)), cond_false, wrap_succ (by omega), idx_nat, List.getElem?_eq_getElem hlt]
     dsimp only
     rw [hk, cond_true]
     rfl
theorem f11_oC : ∀ (d m : Nat) (k : Int) (ps : List Pt) (ts : List Bool) (a b c e : Int) (w : List UInt8) , 1 ≤ m → m + d = 5 → Go11 kk f11t22 (f11s8 l m 0 0 0 0 0 [] k ps ts a b c e w) (finE (k, ps, ts, a, b, c, e, msF l d (m : Int), w)) := by
 intro d
 induction d with
 | zero =>
   intro m k ps ts a b c e w h1m hd
   rw [show msF l 0 (m : Int) = [] from rfl]
   unfold finE
   cases hr : Ev.right (k, ps, ts, a, b, c, e, [], w) with
   | true =>
     rw [if_pos rfl]
     refine ⟨1, _, canon_ev0 .., ?_⟩
     rw [vrun_succ, f11_8, bif_neg (by exact decide_eq_false (by omega))]
     rw [hr]
     rfl
   | false =>
     rw [if_neg (by decide)]
     refine ⟨1, _, canon_zEv 60, ?_⟩
     rw [vrun_succ, f11_8, bif_neg (by exact decide_eq_false (by omega))]
     rw [hr]
     rfl
 | succ d ih =>
   intro m k ps ts a b c e w h1m hd
   have hi := f11_iC kk l ho hm m (by omega) k ps ts a b c e w (finE (k, ps, ts, a, b, c, e, msF l (d + 1) (m : Int), w)) l.length 0 false (by omega) (fun h => ?_) (fun h => ?_)
   ·refine hi.step fun N => ?_
    rw [vrun_succ, f11_8, bif_pos (by exact decide_eq_true (by omega))]
    rfl
   ·rw [List.drop_zero, Bool.false_or] at h
    rw [show msF l (d + 1) (m : Int) = [(m : Int)] ++ msF l d ((m + 1 : Nat) : Int) from by simp only [msF]; rw [if_pos h]; rfl]
    exact f11_oD kk l ho hm d (m + 1) k ps ts a b c e w [(m : Int)] (by omega) (by omega) (by simp; omega)
   ·rw [List.drop_zero, Bool.false_or] at h
    rw [show msF l (d + 1) (m : Int) = msF l d ((m + 1 : Nat) : Int) from by simp only [msF]; rw [if_neg h]; rfl]
    exact ih (m + 1) k ps ts a b c e w (by omega) (by omega)
theorem f11_p (i : Nat) (hi : i < l.length) (hlen : l[i].2.2.1.length = l[i].2.1.length) (h8 : l[i].2.1.length ≤ 8) (r : Ev × Int) (a b c e : Int) (w : List UInt8) : ∀ (d j : Nat) (k : Int) (ps : List Pt) (ts : List Bool), j + d = l[i].2.1.length → ts.length = ps.length → ps.length + d ≤ 1000 →
  Go11 kk f11t10 (f11s6 l ((i + 1 : Nat) : Int) 0 0 0 0 0 [] (if d = 0 then k else 1) (putL (l[i].2.1.drop j) (l[i].2.2.1.drop j) (ps, ts)).1 (putL (l[i].2.1.drop j) (l[i].2.2.1.drop j) (ps, ts)).2 a b c e w) r →
  Go11 kk f11t17 (f11s4 l i j 0 0 0 0 0 [] k ps ts a b c e w) r := by
 have _ := ho
 have _ := hm
 intro d
 induction d with
 | zero =>
   intro j k ps ts hj h1 h2 hg
   rw [List.drop_eq_nil_of_le (by omega), if_pos rfl] at hg
   refine hg.step fun N => ?_
   rw [vrun_succ, f11_4, idxL hi]
   dsimp only
   rw [bif_neg (by exact decide_eq_false (by omega)), wrap_succ (by omega)]
   rfl
 | succ d ih =>
   intro j k ps ts hj h1 h2 hg
   have hlt : j < l[i].2.1.length := by omega
   have hlt2 : j < l[i].2.2.1.length := by omega
   have hp := putP_len l[i].2.1[j] l[i].2.2.1[j] ps ts h1
   rw [List.drop_eq_getElem_cons hlt, List.drop_eq_getElem_cons hlt2, if_neg (by omega)] at hg
   refine (ih (j + 1) 1 (putP l[i].2.1[j] l[i].2.2.1[j] ps ts).1 (putP l[i].2.1[j] l[i].2.2.1[j] ps ts).2 (by omega) hp.1 (by omega) (by rw [ite_self]; exact hg)).step fun N => ?_
   have hok : okPut ps ts = true := by
    unfold okPut
    rw [Bool.and_eq_true]
    exact ⟨decide_eq_true h1, decide_eq_true (by omega)⟩
   rw [vrun_succ, f11_4, idxL hi]
   dsimp only
   rw [bif_pos (by exact decide_eq_true (by omega)), idx_nat, idx_nat, List.getElem?_eq_getElem hlt, List.getElem?_eq_getElem hlt2]
   dsimp only
   rw [hok, cond_true, wrap_succ (by omega)]
theorem f11_p0 (i : Nat) (hi : i < l.length) (hlen : l[i].2.2.1.length = l[i].2.1.length) (h8 : l[i].2.1.length ≤ 8) (r : Ev × Int) (k a b c e : Int) (w : List UInt8)
  (h0 : l[i].2.1 = [] → Go11 kk f11t10 (f11s1 l ((i + 1 : Nat) : Int) 0 0 0 0 0 [] k a b c e w) r)
  (h1 : l[i].2.1 ≠ [] → Go11 kk f11t10 (f11s6 l ((i + 1 : Nat) : Int) 0 0 0 0 0 [] 1 (putL l[i].2.1 l[i].2.2.1 ([], [])).1 (putL l[i].2.1 l[i].2.2.1 ([], [])).2 a b c e w) r) :
  Go11 kk f11t17 (f11s2 l i 0 0 0 0 0 0 [] k a b c e w) r := by
 by_cases hz : l[i].2.1 = []
 ·refine (h0 hz).step fun N => ?_
  have hz' : l[i].2.1.length = 0 := by rw [hz]; rfl
  rw [vrun_succ, f11_2, idxL hi]
  dsimp only
  rw [bif_neg (by exact decide_eq_false (by omega)), wrap_succ (by omega)]
 ·have hlt : 0 < l[i].2.1.length := List.length_pos_iff.2 hz
  have hlt2 : 0 < l[i].2.2.1.length := by omega
  have hg := h1 hz
  have e1 : l[i].2.1 = l[i].2.1[0] :: l[i].2.1.drop 1 := by
   have := List.drop_eq_getElem_cons hlt
   rwa [List.drop_zero] at this
  have e2 : l[i].2.2.1 = l[i].2.2.1[0] :: l[i].2.2.1.drop 1 := by
   have := List.drop_eq_getElem_cons hlt2
   rwa [List.drop_zero] at this
  have ep : putL l[i].2.1 l[i].2.2.1 ([], []) = putL (l[i].2.1.drop 1) (l[i].2.2.1.drop 1) (putP l[i].2.1[0] l[i].2.2.1[0] [] []) := by
   conv => lhs; rw [e1, e2]
   rfl
  rw [ep] at hg
  have hp := putP_len l[i].2.1[0] l[i].2.2.1[0] [] [] rfl
  have hp2 : (putP l[i].2.1[0] l[i].2.2.1[0] [] []).1.length ≤ 1 := hp.2
  refine (f11_p kk l ho hm i hi hlen h8 r a b c e w (l[i].2.1.length - 1) 1 1 (putP l[i].2.1[0] l[i].2.2.1[0] [] []).1 (putP l[i].2.1[0] l[i].2.2.1[0] [] []).2 (by omega) hp.1 (by omega) (by rw [ite_self]; exact hg)).step fun N => ?_
  rw [vrun_succ, f11_2, idxL hi]
  dsimp only
  rw [bif_pos (by exact decide_eq_true (by omega)), idx_get _ (0 : Int) 0 rfl, idx_get _ (0 : Int) 0 rfl, List.getElem?_eq_getElem hlt, List.getElem?_eq_getElem hlt2, w64 (n := 0 + 1) (by decide) (by decide)]
  rfl
variable (hr : ∀ e ∈ l, e.sound)
include hr
theorem f11_e (a b c e : Int) : ∀ (d i : Nat) (k : Int) (ps : List Pt) (ts : List Bool) (w : List UInt8), i + d = l.length → ts.length = ps.length → ps.length + 8 * d ≤ 1000 →
  Go11 kk f11t10 (f11s6 l i 0 0 0 0 0 [] k ps ts a b c e w) (refC (a, b, c, e) l (goE (a, b, c, e) (l.drop i) ⟨k, ps, ts, w⟩)) := by
 intro d
 induction d with
 | zero =>
   intro i k ps ts w hi h1 h2
   rw [List.drop_eq_nil_of_le (by omega)]
   refine (f11_oC kk l ho hm 4 1 k ps ts a b c e w (by omega) (by omega)).step fun N => ?_
   rw [vrun_succ, f11_6, bif_neg (by exact decide_eq_false (by omega))]
   rfl
 | succ d ih =>
   intro i k ps ts w hi h1 h2
   have hlt : i < l.length := by omega
   have hs := hr _ (List.getElem_mem hlt)
   rw [List.drop_eq_getElem_cons hlt]
   simp only [goE]
   by_cases hv : l[i].val = (a, b, c, e)
   ·rw [if_pos hv]
    have h8 : l[i].2.1.length ≤ 8 := hs.few
    have hp := putL_len l[i].2.1 l[i].2.2.1 (ps, ts) h1
    have key : ∀ w', Go11 kk f11t17 (f11s4 l i ((0 : Nat) : Int) 0 0 0 0 0 [] k ps ts a b c e w') (refC (a, b, c, e) l (goE (a, b, c, e) (l.drop (i + 1)) ⟨if l[i].pitches = [] then k else 1, (putL l[i].pitches l[i].ties (ps, ts)).1, (putL l[i].pitches l[i].ties (ps, ts)).2, w'⟩)) := fun w' => by
     refine f11_p kk l ho hm i hlt hs.len h8 _ a b c e w' l[i].2.1.length 0 k ps ts (by omega) h1 (by omega) ?_
     have ek : (if l[i].2.1.length = 0 then k else 1) = if l[i].pitches = [] then k else 1 := by
      by_cases hz : l[i].2.1 = []
      ·rw [if_pos (by rw [hz]; rfl), if_pos (show l[i].pitches = [] from hz)]
      ·rw [if_neg (fun h => hz (List.length_eq_zero_iff.1 h)), if_neg (show ¬ l[i].pitches = [] from hz)]
     rw [ek]
     exact ih (i + 1) _ _ _ w' (by omega) hp.1 (by have h9 : (putL l[i].2.1 l[i].2.2.1 (ps, ts)).1.length ≤ ps.length + l[i].2.1.length := hp.2; show (putL l[i].2.1 l[i].2.2.1 (ps, ts)).1.length + 8 * d ≤ 1000; omega)
    refine (key _).step fun N => ?_
    rw [vrun_succ, f11_6, bif_pos (by exact decide_eq_true (by omega)), idxL hlt]
    dsimp only
    rw [valEq, decide_eq_true hv, Bool.not_true, cond_false]
    by_cases hw : w = []
    ·subst hw
     rw [if_pos rfl]
     rfl
    ·rw [if_neg hw, bif_neg (by simpa using hw)]
     rfl
   ·rw [if_neg hv]
    refine ⟨1, _, canon_zEv 2, ?_⟩
    rw [vrun_succ, f11_6, bif_pos (by exact decide_eq_true (by omega)), idxL hlt]
    dsimp only
    rw [valEq, decide_eq_false hv, Bool.not_false, cond_true]
theorem f11_e0 (a b c e : Int) : ∀ (d i : Nat) (k : Int) (w : List UInt8), i + d = l.length → 
  Go11 kk f11t10 (f11s1 l i 0 0 0 0 0 [] k a b c e w) (refC (a, b, c, e) l (goE (a, b, c, e) (l.drop i) ⟨k, [], [], w⟩)) := by
 intro d
 induction d with
 | zero =>
   intro i k w hi
   rw [List.drop_eq_nil_of_le (by omega)]
   refine (f11_oA kk l ho hm 4 1 k a b c e w (by omega) (by omega)).step fun N => ?_
   rw [vrun_succ, f11_1, bif_neg (by exact decide_eq_false (by omega))]
   rfl
 | succ d ih =>
   intro i k w hi
   have hlt : i < l.length := by omega
   have hs := hr _ (List.getElem_mem hlt)
   rw [List.drop_eq_getElem_cons hlt]
   simp only [goE]
   by_cases hv : l[i].val = (a, b, c, e)
   ·rw [if_pos hv]
    have h8 : l[i].2.1.length ≤ 8 := hs.few
    have hp := putL_len l[i].2.1 l[i].2.2.1 ([], []) rfl
    have key : ∀ w', Go11 kk f11t17 (f11s2 l i 0 0 0 0 0 0 [] k a b c e w') (refC (a, b, c, e) l (goE (a, b, c, e) (l.drop (i + 1)) ⟨if l[i].pitches = [] then k else 1, (putL l[i].pitches l[i].ties ([], [])).1, (putL l[i].pitches l[i].ties ([], [])).2, w'⟩)) := fun w' => by
     refine f11_p0 kk l ho hm i hlt hs.len h8 _ k a b c e w' (fun hz => ?_) (fun hz => ?_)
     ·have hz' : l[i].pitches = [] := hz
      rw [if_pos hz', hz']
      simp only [putL]
      exact ih (i + 1) k w' (by omega)
     ·rw [if_neg (show ¬ l[i].pitches = [] from hz)]
      exact f11_e kk l ho hm hr a b c e d (i + 1) 1 _ _ w' (by omega) hp.1 (by have h9 : (putL l[i].2.1 l[i].2.2.1 ([], [])).1.length ≤ 0 + l[i].2.1.length := hp.2; show (putL l[i].2.1 l[i].2.2.1 ([], [])).1.length + 8 * d ≤ 1000; omega)
    refine (key _).step fun N => ?_
    rw [vrun_succ, f11_1, bif_pos (by exact decide_eq_true (by omega)), idxL hlt]
    dsimp only
    rw [valEq, decide_eq_true hv, Bool.not_true, cond_false]
    by_cases hw : w = []
    ·subst hw
     rw [if_pos rfl]
     rfl
    ·rw [if_neg hw, bif_neg (by simpa using hw)]
   ·rw [if_neg hv]
    refine ⟨1, _, canon_zEv 2, ?_⟩
    rw [vrun_succ, f11_1, bif_pos (by exact decide_eq_true (by omega)), idxL hlt]
    dsimp only
    rw [valEq, decide_eq_false hv, Bool.not_false, cond_true]
end
theorem f11_r (kk : V → List Ob → Option (V × List Ob)) (l : List Ev) (ho : l.length ≤ 100) (hm : ∀ e ∈ l, Ev.okm e = true) (h0 : l ≠ []) : ∀ (d i : Nat), i + d = l.length → (∀ e ∈ l.take i, e.right = true) → Go11 kk f11t4 (f11s0 l i 0 0 0 0 0 []) (chordS l) := by
 intro d
 induction d with
 | zero =>
   intro i hi hr
   rw [show i = l.length by omega, List.take_length] at hr
   match l, h0 with
   | x :: q, _ =>
     have ha : (x :: q).all Ev.right = true := List.all_eq_true.2 hr
     rw [← refC_ch ha]
     refine (f11_e0 kk (x :: q) ho hm (fun e he => Ev.right_sound (hr e he)) x.val.1 x.val.2.1 x.val.2.2.1 x.val.2.2.2 (x :: q).length 0 0 [] (by omega)).step fun N => ?_
     rw [vrun_succ, f11_0, bif_neg (by exact decide_eq_false (by omega))]
     rfl
 | succ d ih =>
   intro i hi hr
   have hlt : i < l.length := by omega
   cases hc : Ev.right l[i] with
   | true =>
     refine (ih (i + 1) (by omega) (fun e he => ?_)).step fun N => ?_
     ·have et : l.take (i + 1) = l.take i ++ [l[i]] := by simp
      rw [et, List.mem_append] at he
      rcases he with he | he
      ·exact hr e he
      ·simp at he; rw [he]; exact hc
     ·rw [vrun_succ, f11_0, bif_pos (by exact decide_eq_true (by omega)), idxL hlt]
      dsimp only
      rw [hm _ (List.getElem_mem hlt), cond_true, hc, wrap_succ (by omega)]
      rfl
   | false =>
     have ew : chordS l = (zEv, 60) := chordS_wrong h0 (by
      cases hq : l.all Ev.right with
      | false => rfl
      | true =>
        have := List.all_eq_true.1 hq _ (List.getElem_mem hlt)
        rw [hc] at this; cases this)
     rw [ew]
     refine ⟨1, _, canon_zEv 60, ?_⟩
     rw [vrun_succ, f11_0, bif_pos (by exact decide_eq_true (by omega)), idxL hlt]
     dsimp only
     rw [hm _ (List.getElem_mem hlt), cond_true, hc]
     rfl
def okC (l : List Ev) : Bool := oksE l && decide (l.length ≤ 100)
theorem f11_run (kk : V → List Ob → Option (V × List Ob)) (l : List Ev) (h : okC l = true) :
  ∃ N v, canon2 true rEvent v = some ((chordS l).1, .int .i64 (chordS l).2) ∧ vrun (E21 8) f11cuts 0 100000 (k11 kk) N [.code (fb Tryd.f11).2] (start [enc false srE l] []) = kk v [] := by
 simp only [okC, Bool.and_eq_true, decide_eq_true_eq] at h
 obtain ⟨h1, h2⟩ := h
 have hm := (oksE_of h1).2
 by_cases h0 : l = []
 ·subst h0
  refine ⟨1, _, canon_zEv 2, ?_⟩
  rw [vrun_succ]
  refine (f11_go _ kk []).trans ?_
  rfl
 ·obtain ⟨N, v, h3, h4⟩ := f11_r kk l h2 hm h0 l.length 0 (by omega) (by simp)
  refine ⟨N + 1, v, h3, ?_⟩
  rw [vrun_succ]
  refine (f11_go _ kk l).trans ?_
  rw [bif_neg (by exact decide_eq_false (fun e => h0 (List.length_eq_zero_iff.1 (by omega))))]
  exact h4
noncomputable def f11e : Entry Tryd.prog gls := .one 11 false srE (by intro h; cases h <;> rfl) (fun (l : List Ev) => (okC l, evR (chordS l))) fun x h => by
 obtain ⟨n, v, hv, hn⟩ := f11_run (fun v os => some (v, os)) x h
 have := contract_run (fn := (fb Tryd.f11).1) (c := (fb Tryd.f11).2) mixed (ready21 8) (glE21 8) Tryd.func11 (by kernel_rfl) rfl rfl (by kernel_rfl) hn
 exact this.canon2 (by intro h; cases h) hv
end Vm.S6b
open Go Go.Proofs
namespace Vm.S6b
noncomputable abbrev R10 (kk : V → List Ob → Option (V × List Ob)) (N : Nat) (t : List Item) (s : St) := vrun (E21 8) f10cuts 0 100000 (k10 kk) N t s
def Go10 (kk : V → List Ob → Option (V × List Ob)) (t : List Item) (s : St) (r : Ev × Int) : Prop := ∃ N v, canon2 true rEvent v = some (r.1, .int .i64 r.2) ∧ R10 kk N t s = kk v []
theorem Go10.step {kk : V → List Ob → Option (V × List Ob)} {t t' : List Item} {s s' : St} {r : Ev × Int} (h : Go10 kk t' s' r) (e : ∀ N, R10 kk (N + 1) t s = R10 kk N t' s') : Go10 kk t s r := by
 obtain ⟨N, v, h1, h2⟩ := h
 exact ⟨N + 1, v, h1, (e N).trans h2⟩
theorem canon_ev3 (k : Int) (ps : List Pt) (a b c e : Int) (ms : List Int) (w : List UInt8) (n : Int) : canon2 true rEvent (.tuple [.agg [.int .i64 k, .sl rPitch ps, .nilsl, .int .i64 a, .int .i64 b, .int .i64 c, .int .i64 e, .sl rI ms, .str w], .int .i64 n]) = some (((k, ps, [], a, b, c, e, ms, w) : Ev), .int .i64 n) := rfl
theorem pick10 {α : Type} (f : Option Bool) (t : Bool) (F : List Pt → Bool → Option α) (acc : List Pt) (p : Pt) :
  (bif !f.isSome then (bif true then (bif f.getD false then F (acc ++ [p]) true else F (acc ++ [p]) t) else none) else (bif f.getD false then F acc true else F acc t)) = F (if f.isSome = true then acc else acc ++ [p]) (f.getD false || t) := by
 cases f with
 | none => cases t <;> rfl
 | some b => cases b <;> cases t <;> rfl
section
variable (kk : V → List Ob → Option (V × List Ob))
theorem f10_t (acc : List Pt) (es : List (Pt × Bool)) (a b c e : Int) (ms : List Int) (w : List UInt8) (hms : ms.length ≤ 1000) (P : List Pt) (hP : P = arL encP (Go.Sort.sort ltR (liftR acc))) (hP2 : P.length ≤ 1000) : ∀ (d j : Nat) (ts : List Bool), j + d = P.length → ts.length ≤ j →
  Go10 kk f10t28 (f10s10 acc j 0 0 0 0 0 [] 1 a b c e ms w es P ts) (finE (1, P, ts ++ (P.drop j).map (fun p => (findKey beqP p es).getD false), a, b, c, e, ms, w)) := by
 intro d
 induction d with
 | zero =>
   intro j ts hj ht
   rw [List.drop_eq_nil_of_le (by omega), List.map_nil, List.append_nil]
   unfold finE
   cases hr : Ev.right (1, P, ts, a, b, c, e, ms, w) with
   | true =>
     rw [if_pos rfl]
     refine ⟨1, _, canon_ev .., ?_⟩
     show vrun _ _ _ _ _ _ _ _ = _
     rw [vrun_succ, f10_10, ← hP, bif_neg (by exact decide_eq_false (by omega)), okm_of hms, cond_true, hr]
     rfl
   | false =>
     rw [if_neg (by decide)]
     refine ⟨1, _, canon_zEv 60, ?_⟩
     show vrun _ _ _ _ _ _ _ _ = _
     rw [vrun_succ, f10_10, ← hP, bif_neg (by exact decide_eq_false (by omega)), okm_of hms, cond_true, hr]
     rfl
 | succ d ih =>
   intro j ts hj ht
   have hlt : j < P.length := by omega
   rw [List.drop_eq_getElem_cons hlt, List.map_cons]
   have := ih (j + 1) (ts ++ [(findKey beqP P[j] es).getD false]) (by omega) (by simp; omega)
   rw [List.append_assoc] at this
   refine this.step fun N => ?_
   show vrun _ _ _ _ _ _ _ _ = _
   rw [vrun_succ, f10_10, ← hP, bif_pos (by exact decide_eq_true (by omega)), idx_nat, Int.toNat_natCast, List.getElem?_eq_getElem hlt]
   dsimp only
   rw [bif_pos (by exact decide_eq_true (by simp [bytesMost]; omega)), wrap_succ (by omega)]
   rfl
theorem f10_t8 (acc : List Pt) (es : List (Pt × Bool)) (a b c e : Int) (ms : List Int) (w : List UInt8) (hms : ms.length ≤ 1000) (hP2 : (sortR acc).length ≤ 1000) :
  Go10 kk f10t28 (f10s8 acc 0 0 0 0 0 0 [] 0 a b c e ms w es (sortR acc)) (finE (if sortR acc = [] then 0 else 1, sortR acc, (sortR acc).map (fun p => (findKey beqP p es).getD false), a, b, c, e, ms, w)) := by
 obtain ⟨P, hP⟩ : ∃ P, sortR acc = P := ⟨_, rfl⟩
 rw [hP] at hP2 ⊢
 have hP' : P = arL encP (Go.Sort.sort ltR (liftR acc)) := hP.symm
 by_cases hz : P = []
 ·have hz' : P.length = 0 := by rw [hz]; rfl
  rw [if_pos hz]
  unfold finE
  have em : P.map (fun p => (findKey beqP p es).getD false) = [] := by rw [hz]; rfl
  rw [em]
  cases hr : Ev.right (0, P, [], a, b, c, e, ms, w) with
  | true =>
    rw [if_pos rfl]
    refine ⟨1, _, canon_ev3 .., ?_⟩
    show vrun _ _ _ _ _ _ _ _ = _
    rw [vrun_succ, f10_8, ← hP', bif_neg (by exact decide_eq_false (by omega)), okm_of hms, cond_true, hr]
    rfl
  | false =>
    rw [if_neg (by decide)]
    refine ⟨1, _, canon_zEv 60, ?_⟩
    show vrun _ _ _ _ _ _ _ _ = _
    rw [vrun_succ, f10_8, ← hP', bif_neg (by exact decide_eq_false (by omega)), okm_of hms, cond_true, hr]
    rfl
 ·rw [if_neg hz]
  have hlt : 0 < P.length := List.length_pos_iff.2 hz
  have e1 : P = P[0] :: P.drop 1 := by
   have := List.drop_eq_getElem_cons hlt
   rwa [List.drop_zero] at this
  have := f10_t kk acc es a b c e ms w hms P hP' hP2 (P.length - 1) 1 [(findKey beqP P[0] es).getD false] (by omega) (by simp)
  have em : P.map (fun p => (findKey beqP p es).getD false) = [(findKey beqP P[0] es).getD false] ++ (P.drop 1).map (fun p => (findKey beqP p es).getD false) := by
   conv => lhs; rw [e1]
   rfl
  rw [em]
  refine this.step fun N => ?_
  show vrun _ _ _ _ _ _ _ _ = _
  rw [vrun_succ, f10_8, ← hP', bif_pos (by exact decide_eq_true (by omega)), idx_get _ (0 : Int) 0 rfl, List.getElem?_eq_getElem hlt, show ((0 : Int)).toNat = 0 from rfl, List.getElem?_eq_getElem hlt, w64 (n := 0 + 1) (by decide) (by decide)]
  rfl
theorem f10_t6 (es : List (Pt × Bool)) (a b c e : Int) (ms : List Int) (w : List UInt8) (hms : ms.length ≤ 1000) :
  Go10 kk f10t28 (f10s6 0 0 0 0 0 0 [] 0 a b c e ms w es) (finE (0, [], [], a, b, c, e, ms, w)) := by
 unfold finE
 cases hr : Ev.right (0, [], [], a, b, c, e, ms, w) with
 | true =>
   rw [if_pos rfl]
   refine ⟨1, _, canon_ev1 .., ?_⟩
   show vrun _ _ _ _ _ _ _ _ = _
   rw [vrun_succ, f10_6]
   rw [okm_of hms, cond_true, hr]
   rfl
 | false =>
   rw [if_neg (by decide)]
   refine ⟨1, _, canon_zEv 60, ?_⟩
   show vrun _ _ _ _ _ _ _ _ = _
   rw [vrun_succ, f10_6]
   rw [okm_of hms, cond_true, hr]
   rfl
variable (l : List Ev)
theorem f10_p (i : Nat) (y : Ev) (hi : i < l.length) (hl2 : l.length ≤ 100) (hlen : y.2.2.1.length = y.2.1.length) (h8 : y.2.1.length ≤ 8) (r : Ev × Int) (a b c e : Int) (w : List UInt8) (ms : List Int) : ∀ (d j : Nat) (acc : List Pt) (es : List (Pt × Bool)), j + d = y.2.1.length → acc.length + d ≤ 1000 →
  Go10 kk f10t8 (f10s4 l ((i + 1 : Nat) : Int) 0 0 0 0 0 [] 0 a b c e w (inE (y.2.1.drop j) (y.2.2.1.drop j) (acc, es)).2 (inE (y.2.1.drop j) (y.2.2.1.drop j) (acc, es)).1 ms) r →
  Go10 kk f10t16 (f10s9 l i y j 0 0 0 0 0 [] 0 a b c e w es y acc ms) r := by
 intro d
 induction d with
 | zero =>
   intro j acc es hj h1 hg
   rw [List.drop_eq_nil_of_le (by omega)] at hg
   refine hg.step fun N => ?_
   show vrun _ _ _ _ _ _ _ _ = _
   rw [vrun_succ, f10_9, bif_neg (by exact decide_eq_false (by omega)), wrap_succ (by omega)]
   rfl
 | succ d ih =>
   intro j acc es hj h1 hg
   have hlt : j < y.2.1.length := by omega
   have hlt2 : j < y.2.2.1.length := by omega
   rw [List.drop_eq_getElem_cons hlt, List.drop_eq_getElem_cons hlt2] at hg
   simp only [inE] at hg
   have hb : (if (findKey beqP y.2.1[j] es).isSome = true then acc else acc ++ [y.2.1[j]]).length + d ≤ 1000 := by
    split
    ·omega
    ·simp only [List.length_append, List.length_cons, List.length_nil]; omega
   refine (ih (j + 1) _ _ (by omega) hb hg).step fun N => ?_
   show vrun _ _ _ _ _ _ _ _ = _
   rw [vrun_succ, f10_9, bif_pos (by exact decide_eq_true (by omega)), idx_nat, idx_nat, List.getElem?_eq_getElem hlt, List.getElem?_eq_getElem hlt2, wrap_succ (by omega)]
   dsimp only
   have b1 : decide ((acc.length + 1) * 24 ≤ bytesMost) = true := decide_eq_true (by simp [bytesMost]; omega)
   rw [b1]
   exact pick10 (findKey beqP y.2.1[j] es) y.2.2.1[j] (fun acc' b' => R10 kk N f10t16 (f10s9 l i y ((j + 1 : Nat) : Int) 0 0 0 0 0 [] 0 a b c e w (setKey beqP y.2.1[j] b' es) y acc' ms)) acc y.2.1[j]
theorem f10_p0 (i : Nat) (y : Ev) (hi : i < l.length) (hl2 : l.length ≤ 100) (hlen : y.2.2.1.length = y.2.1.length) (h8 : y.2.1.length ≤ 8) (r : Ev × Int) (a b c e : Int) (w : List UInt8) (ms : List Int)
  (h0 : y.2.1 = [] → Go10 kk f10t8 (f10s3 l ((i + 1 : Nat) : Int) 0 0 0 0 0 [] 0 a b c e w [] ms) r)
  (h1 : y.2.1 ≠ [] → Go10 kk f10t8 (f10s4 l ((i + 1 : Nat) : Int) 0 0 0 0 0 [] 0 a b c e w (inE y.2.1 y.2.2.1 ([], [])).2 (inE y.2.1 y.2.2.1 ([], [])).1 ms) r) :
  Go10 kk f10t16 (f10s5 l i y 0 0 0 0 0 0 [] 0 a b c e w [] y ms) r := by
 by_cases hz : y.2.1 = []
 ·have hz' : y.2.1.length = 0 := by rw [hz]; rfl
  refine (h0 hz).step fun N => ?_
  show vrun _ _ _ _ _ _ _ _ = _
  rw [vrun_succ, f10_5, bif_neg (by exact decide_eq_false (by omega)), wrap_succ (by omega)]
 ·have hlt : 0 < y.2.1.length := List.length_pos_iff.2 hz
  have hlt2 : 0 < y.2.2.1.length := by omega
  have hg := h1 hz
  have e1 : y.2.1 = y.2.1[0] :: y.2.1.drop 1 := by
   have := List.drop_eq_getElem_cons hlt
   rwa [List.drop_zero] at this
  have e2 : y.2.2.1 = y.2.2.1[0] :: y.2.2.1.drop 1 := by
   have := List.drop_eq_getElem_cons hlt2
   rwa [List.drop_zero] at this
  have ep : inE y.2.1 y.2.2.1 ([], []) = inE (y.2.1.drop 1) (y.2.2.1.drop 1) ([y.2.1[0]], [(y.2.1[0], y.2.2.1[0])]) := by
   conv => lhs; rw [e1, e2]
   rfl
  rw [ep] at hg
  refine (f10_p kk l i y hi hl2 hlen h8 r a b c e w ms (y.2.1.length - 1) 1 [y.2.1[0]] [(y.2.1[0], y.2.2.1[0])] (by omega) (by simp; omega) hg).step fun N => ?_
  show vrun _ _ _ _ _ _ _ _ = _
  rw [vrun_succ, f10_5, bif_pos (by exact decide_eq_true (by omega)), idx_get _ (0 : Int) 0 rfl, idx_get _ (0 : Int) 0 rfl, List.getElem?_eq_getElem hlt, List.getElem?_eq_getElem hlt2, w64 (n := 0 + 1) (by decide) (by decide)]
  rfl
theorem sortR_len (acc : List Pt) (h : ckP acc = true) : (sortR acc).length = acc.length := (sortR_perm (List.all_eq_true.1 h)).length_eq
theorem ci_len (ms : List Int) : (compI (sortI ms)).length ≤ ms.length := Nat.le_trans (compI_len _) (by rw [(sortI_perm ms).length_eq]; exact Nat.le_refl _)
theorem inE_right : ∀ (ps : List Pt) (ts : List Bool) (r : List Pt × List (Pt × Bool)), ckP ps = true → ckP r.1 = true → ckP (inE ps ts r).1 = true
 | [], ts, r, _, h => by simpa [inE] using h
 | p :: ps, [], r, _, h => by simpa [inE] using h
 | p :: ps, t :: ts, r, hp, h => by
   simp only [ckP, List.all_cons, Bool.and_eq_true] at hp
   simp only [inE]
   refine inE_right ps ts _ hp.2 ?_
   simp only
   split
   ·exact h
   ·unfold ckP at *
    rw [List.all_append, h]
    simp [hp.1]
variable (hl : l.length ≤ 30) (hr : ∀ e ∈ l, e.sound)
include hl hr
theorem f10_e (a b c e : Int) : ∀ (d i : Nat) (acc : List Pt) (es : List (Pt × Bool)) (ms : List Int) (w : List UInt8), i + d = l.length → acc.length ≤ 8 * i → ms.length ≤ 4 * i → ckP acc = true →
  Go10 kk f10t8 (f10s4 l i 0 0 0 0 0 [] 0 a b c e w es acc ms) (proC (a, b, c, e) (goP (a, b, c, e) (l.drop i) ⟨acc, es, ms, w⟩)) := by
 intro d
 induction d with
 | zero =>
   intro i acc es ms w hi h1 h2 hck
   rw [List.drop_eq_nil_of_le (by omega)]
   have hc := ci_len ms
   have hs := sortR_len acc hck
   have key := f10_t8 kk acc es a b c e (compI (sortI ms)) w (by omega) (by omega)
   refine key.step fun N => ?_
   show vrun _ _ _ _ _ _ _ _ = _
   rw [vrun_succ, f10_4, bif_neg (by exact decide_eq_false (by omega))]
   have es1 : arL encI (Go.Sort.sort Go.Sort.ltInt (liftI ms)) = sortI ms := by rw [arL_encI]; rfl
   have hsl : (sortI ms).length = ms.length := (sortI_perm ms).length_eq
   rw [es1, hck, show ckI ms = true from rfl, Bool.true_and, Bool.true_and, bif_pos (by exact decide_eq_true (by omega)), bif_pos (by exact decide_eq_true (by omega)), bif_pos (by exact decide_eq_true (by omega))]
   rfl
 | succ d ih =>
   intro i acc es ms w hi h1 h2 hck
   have hlt : i < l.length := by omega
   have hs := hr _ (List.getElem_mem hlt)
   have hml := marks_len hs
   rw [List.drop_eq_getElem_cons hlt]
   simp only [goP]
   by_cases hv : l[i].val = (a, b, c, e)
   ·rw [if_pos hv]
    have h8 : l[i].2.1.length ≤ 8 := hs.few
    have hle := inE_len l[i].2.1 l[i].2.2.1 (acc, es)
    have hckp : ckP l[i].2.1 = true := List.all_eq_true.2 fun p hp => hs.pr p hp
    have key : ∀ w', Go10 kk f10t16 (f10s9 l i l[i] ((0 : Nat) : Int) 0 0 0 0 0 [] 0 a b c e w' es l[i] acc (ms ++ l[i].marks)) (proC (a, b, c, e) (goP (a, b, c, e) (l.drop (i + 1)) ⟨(inE l[i].pitches l[i].ties (acc, es)).1, (inE l[i].pitches l[i].ties (acc, es)).2, ms ++ l[i].marks, w'⟩)) := fun w' => by
     refine f10_p kk l i l[i] hlt (by omega) hs.len h8 _ a b c e w' _ l[i].2.1.length 0 acc es (by omega) (by omega) ?_
     exact ih (i + 1) _ _ _ w' (by omega) (by have h9 : (inE l[i].2.1 l[i].2.2.1 (acc, es)).1.length ≤ acc.length + l[i].2.1.length := hle; show (inE l[i].2.1 l[i].2.2.1 (acc, es)).1.length ≤ 8 * (i + 1); omega) (by rw [List.length_append]; omega) (inE_right _ _ _ hckp hck)
    refine (key _).step fun N => ?_
    have b1 : decide ((ms.length + List.length l[i].2.2.2.2.2.2.2.1) * 8 ≤ bytesMost) = true := decide_eq_true (by
     have : l[i].2.2.2.2.2.2.2.1.length ≤ 4 := hml
     simp [bytesMost]; omega)
    show vrun _ _ _ _ _ _ _ _ = _
    rw [vrun_succ, f10_4, bif_pos (by exact decide_eq_true (by omega)), idxL hlt]
    dsimp only
    rw [valEq, decide_eq_true hv, Bool.not_true, cond_false, b1]
    by_cases hw : w = []
    ·subst hw
     rw [if_pos rfl]
     rfl
    ·rw [if_neg hw, bif_neg (by simpa using hw)]
     rfl
   ·rw [if_neg hv]
    refine ⟨1, _, canon_zEv 2, ?_⟩
    show vrun _ _ _ _ _ _ _ _ = _
    rw [vrun_succ, f10_4, bif_pos (by exact decide_eq_true (by omega)), idxL hlt]
    dsimp only
    rw [valEq, decide_eq_false hv, Bool.not_false, cond_true]
theorem f10_e1 (a b c e : Int) : ∀ (d i : Nat) (ms : List Int) (w : List UInt8), i + d = l.length → ms.length ≤ 4 * i →
  Go10 kk f10t8 (f10s3 l i 0 0 0 0 0 [] 0 a b c e w [] ms) (proC (a, b, c, e) (goP (a, b, c, e) (l.drop i) ⟨[], [], ms, w⟩)) := by
 intro d
 induction d with
 | zero =>
   intro i ms w hi h2
   rw [List.drop_eq_nil_of_le (by omega)]
   have hc := ci_len ms
   have key := f10_t6 kk [] a b c e (compI (sortI ms)) w (by omega)
   have es0 : sortR [] = [] := List.eq_nil_of_length_eq_zero (by rw [sortR_len [] rfl]; rfl)
   have er : proC (a, b, c, e) (goP (a, b, c, e) [] ⟨[], [], ms, w⟩) = finE (0, [], [], a, b, c, e, compI (sortI ms), w) := by
    show finP (a, b, c, e) ⟨[], [], ms, w⟩ = _
    unfold finP
    simp only
    rw [es0]
    rfl
   rw [er]
   refine key.step fun N => ?_
   show vrun _ _ _ _ _ _ _ _ = _
   rw [vrun_succ, f10_3, bif_neg (by exact decide_eq_false (by omega))]
   have es1 : arL encI (Go.Sort.sort Go.Sort.ltInt (liftI ms)) = sortI ms := by rw [arL_encI]; rfl
   have hsl : (sortI ms).length = ms.length := (sortI_perm ms).length_eq
   rw [es1, show ckI ms = true from rfl, Bool.true_and, bif_pos (by exact decide_eq_true (by omega)), bif_pos (by exact decide_eq_true (by omega))]
 | succ d ih =>
   intro i ms w hi h2
   have hlt : i < l.length := by omega
   have hs := hr _ (List.getElem_mem hlt)
   have hml := marks_len hs
   rw [List.drop_eq_getElem_cons hlt]
   simp only [goP]
   by_cases hv : l[i].val = (a, b, c, e)
   ·rw [if_pos hv]
    have h8 : l[i].2.1.length ≤ 8 := hs.few
    have hle := inE_len l[i].2.1 l[i].2.2.1 ([], [])
    have hckp : ckP l[i].2.1 = true := List.all_eq_true.2 fun p hp => hs.pr p hp
    have key : ∀ w', Go10 kk f10t16 (f10s5 l i l[i] 0 0 0 0 0 0 [] 0 a b c e w' [] l[i] (ms ++ l[i].marks)) (proC (a, b, c, e) (goP (a, b, c, e) (l.drop (i + 1)) ⟨(inE l[i].pitches l[i].ties ([], [])).1, (inE l[i].pitches l[i].ties ([], [])).2, ms ++ l[i].marks, w'⟩)) := fun w' => by
     refine f10_p0 kk l i l[i] hlt (by omega) hs.len h8 _ a b c e w' _ (fun hz => ?_) (fun hz => ?_)
     ·have hz' : l[i].pitches = [] := hz
      rw [hz']
      simp only [inE]
      exact ih (i + 1) _ w' (by omega) (by rw [List.length_append]; omega)
     ·exact f10_e kk l hl hr a b c e d (i + 1) _ _ _ w' (by omega) (by have h9 : (inE l[i].2.1 l[i].2.2.1 ([], [])).1.length ≤ 0 + l[i].2.1.length := hle; show (inE l[i].2.1 l[i].2.2.1 ([], [])).1.length ≤ 8 * (i + 1); omega) (by rw [List.length_append]; omega) (inE_right _ _ _ hckp rfl)
    refine (key _).step fun N => ?_
    have b1 : decide ((ms.length + List.length l[i].2.2.2.2.2.2.2.1) * 8 ≤ bytesMost) = true := decide_eq_true (by
     have : l[i].2.2.2.2.2.2.2.1.length ≤ 4 := hml
     simp [bytesMost]; omega)
    show vrun _ _ _ _ _ _ _ _ = _
    rw [vrun_succ, f10_3, bif_pos (by exact decide_eq_true (by omega)), idxL hlt]
    dsimp only
    rw [valEq, decide_eq_true hv, Bool.not_true, cond_false, b1]
    by_cases hw : w = []
    ·subst hw
     rw [if_pos rfl]
     rfl
    ·rw [if_neg hw, bif_neg (by simpa using hw)]
     rfl
   ·rw [if_neg hv]
    refine ⟨1, _, canon_zEv 2, ?_⟩
    show vrun _ _ _ _ _ _ _ _ = _
    rw [vrun_succ, f10_3, bif_pos (by exact decide_eq_true (by omega)), idxL hlt]
    dsimp only
    rw [valEq, decide_eq_false hv, Bool.not_false, cond_true]
end
def okC10 (l : List Ev) : Bool := oksE l && decide (l.length ≤ 30)
theorem f10_run (kk : V → List Ob → Option (V × List Ob)) (l : List Ev) (h : okC10 l = true) :
  ∃ N v, canon2 true rEvent v = some ((chordS l).1, .int .i64 (chordS l).2) ∧ R10 kk N [.code (fb Tryd.f10).2] (start [enc false srE l] []) = kk v [] := by
 simp only [okC10, Bool.and_eq_true, decide_eq_true_eq] at h
 obtain ⟨hok, h2⟩ := h
 have hm := (oksE_of hok).2
 match l, h2, hok, hm with
 | [], _, _, _ =>
   refine ⟨1, _, canon_zEv 2, ?_⟩
   show vrun _ _ _ _ _ _ _ _ = _
   rw [vrun_succ]
   refine (f10_go _ kk []).trans ?_
   rfl
 | x :: q, h2, hok, hm =>
   cases ha : (x :: q).all Ev.right with
   | false =>
     rw [chordS_wrong (by simp) ha]
     refine ⟨1, _, canon_zEv 60, ?_⟩
     show vrun _ _ _ _ _ _ _ _ = _
     rw [vrun_succ]
     refine (f10_go _ kk (x :: q)).trans ?_
     rw [bif_neg (by exact decide_eq_false (by simp; omega)), hok, cond_true, firstBad_ge, ha]
     rfl
   | true =>
     have hs := all_sound ha
     rw [← proC_ch ha]
     have s0 := hs x (by simp)
     have h8 : x.2.1.length ≤ 8 := s0.few
     have hml := marks_len s0
     have hckp : ckP x.2.1 = true := List.all_eq_true.2 fun p hp => s0.pr p hp
     have hle := inE_len x.2.1 x.2.2.1 ([], [])
     have go : Go10 kk f10t8 (f10s0 (x :: q) 0 0 0 0 0 0 [] 0 x.2.2.2.1 x.2.2.2.2.1 x.2.2.2.2.2.1 x.2.2.2.2.2.2.1 [] []) (proC x.val (goP x.val (x :: q) ⟨[], [], [], []⟩)) := by
      simp only [goP]
      have key : Go10 kk f10t16 (f10s5 (x :: q) ((0 : Nat) : Int) x 0 0 0 0 0 0 [] 0 x.2.2.2.1 x.2.2.2.2.1 x.2.2.2.2.2.1 x.2.2.2.2.2.2.1 x.word [] x x.marks) (proC x.val (goP x.val q ⟨(inE x.pitches x.ties ([], [])).1, (inE x.pitches x.ties ([], [])).2, x.marks, x.word⟩)) := by
       refine f10_p0 kk (x :: q) 0 x (by simp) (by omega) s0.len h8 _ _ _ _ _ x.word _ (fun hz => ?_) (fun hz => ?_)
       ·have hz' : x.pitches = [] := hz
        rw [hz']
        simp only [inE]
        exact f10_e1 kk (x :: q) h2 hs _ _ _ _ q.length 1 x.marks x.word (by simp; omega) (by omega)
       ·exact f10_e kk (x :: q) h2 hs _ _ _ _ q.length 1 _ _ x.marks x.word (by simp; omega) (by have h9 : (inE x.2.1 x.2.2.1 ([], [])).1.length ≤ 0 + x.2.1.length := hle; show (inE x.2.1 x.2.2.1 ([], [])).1.length ≤ 8 * 1; omega) (by omega) (inE_right _ _ _ hckp rfl)
      refine key.step fun N => ?_
      have b1 : decide (List.length x.2.2.2.2.2.2.2.1 * 8 ≤ bytesMost) = true := decide_eq_true (by
       have : x.2.2.2.2.2.2.2.1.length ≤ 4 := hml
       simp [bytesMost]; omega)
      show vrun _ _ _ _ _ _ _ _ = _
      rw [vrun_succ, f10_0, bif_pos (by exact decide_eq_true (by simp)), idx_get (x :: q) (0 : Int) 0 rfl]
      dsimp only [List.getElem?_cons_zero]
      rw [valEq, decide_eq_true (show x.val = (x.2.2.2.1, x.2.2.2.2.1, x.2.2.2.2.2.1, x.2.2.2.2.2.2.1) from rfl), Bool.not_true, cond_false, b1]
      rfl
     obtain ⟨N, v, h3, h4⟩ := go
     refine ⟨N + 1, v, h3, ?_⟩
     show vrun _ _ _ _ _ _ _ _ = _
     rw [vrun_succ]
     refine (f10_go _ kk (x :: q)).trans ?_
     rw [bif_neg (by exact decide_eq_false (by simp; omega)), hok, cond_true, firstBad_ge, ha]
     exact h4
noncomputable def f10e : Entry Tryd.prog gls := .one 10 false srE (by intro h; cases h <;> rfl) (fun (l : List Ev) => (okC10 l, evR (chordS l))) fun x h => by
 obtain ⟨n, v, hv, hn⟩ := f10_run (fun v os => some (v, os)) x h
 have := contract_run (fn := (fb Tryd.f10).1) (c := (fb Tryd.f10).2) mixed (ready21 8) (glE21 8) Tryd.func10 (by kernel_rfl) rfl rfl (by kernel_rfl) hn
 exact this.canon2 (by intro h; cases h) hv
noncomputable def es22 : List (Entry Tryd.prog gls) := [f10e, f11e] ++ es21
noncomputable def E22 (n : Nat) : Env := interp fns (look tys) gls mvs (tabOf es22) 100000 n
theorem ready22 (n : Nat) : Ready Tryd.prog (E22 n) := ready_of mixed fnsAll tysOk rfsOk n
theorem glE22 (n : Nat) : (E22 n).gl = gls := by cases n <;> rfl
end Vm.S6b
