/- The library's sorts as called, what is put together, as runs of the value machine. -/
import Derived.Test.YtlbkefgnblajlaaDoorLawD
import Derived.Test.YtlbkefgnblajlaaDoorVmE
import Derived.KernelRfl
import Derived.Test.YtlbkefgnblajlaaDoorWords
set_option maxRecDepth 100000
open Go Go.Proofs Go.IntKind
namespace Vm.S6b
variable {R : Type} (J : List Item → St → Option R) (kk : V → List Ob → Option R)
noncomputable abbrev f22cuts : Cuts := fun _ => none
noncomputable abbrev k22 {Q : Type} (k : V → List Ob → Option Q) := vend (E19 8) 1 (fb Tryd.f22).1.results.toList false k
theorem f22_go (l : List Int) :
 vseg (E19 8) f22cuts 1 J (k22 kk) 100000 true [.code (fb Tryd.f22).2] (start ([V.own (0 : Nat)]) ([Ob.arr rI l false])) =
 (bif decide ((4294967296 : Int) ≤ u64.wrap (↑l.length : Int)) then
 (bif decide ((65536 : Int) ≤ (u64.wrap (↑l.length : Int)).fdiv ((2 : Int) ^ min (Int.toNat (32 : Int)) u64.bits)) then
 (bif decide ((256 : Int) ≤ ((u64.wrap (↑l.length : Int)).fdiv ((2 : Int) ^ min (Int.toNat (32 : Int)) u64.bits)).fdiv ((2 : Int) ^ min (Int.toNat (16 : Int)) u64.bits)) then
 (match idx len8tab (u8.wrap ((((u64.wrap (↑l.length : Int)).fdiv ((2 : Int) ^ min (Int.toNat (32 : Int)) u64.bits)).fdiv ((2 : Int) ^ min (Int.toNat (16 : Int)) u64.bits)).fdiv ((2 : Int) ^ min (Int.toNat (8 : Int)) u64.bits))) with
 | some y1 => (bif (g46 (256 : Nat) [(0 : Int), (↑l.length : Int), i64.wrap (i64.wrap (i64.wrap ((32 : Int) + (16 : Int)) + (8 : Int)) + i64.wrap (↑y1.toNat : Int))] l).fst then
 kk (V.tuple []) ([Ob.arr rI (g46 (256 : Nat) [(0 : Int), (↑l.length : Int), i64.wrap (i64.wrap (i64.wrap ((32 : Int) + (16 : Int)) + (8 : Int)) + i64.wrap (↑y1.toNat : Int))] l).snd.snd false])
 else none)
 | none => none)
 else (match idx len8tab (u8.wrap (((u64.wrap (↑l.length : Int)).fdiv ((2 : Int) ^ min (Int.toNat (32 : Int)) u64.bits)).fdiv ((2 : Int) ^ min (Int.toNat (16 : Int)) u64.bits))) with
 | some y2 => (bif (g46 (256 : Nat) [(0 : Int), (↑l.length : Int), i64.wrap (i64.wrap ((32 : Int) + (16 : Int)) + i64.wrap (↑y2.toNat : Int))] l).fst then
 kk (V.tuple []) ([Ob.arr rI (g46 (256 : Nat) [(0 : Int), (↑l.length : Int), i64.wrap (i64.wrap ((32 : Int) + (16 : Int)) + i64.wrap (↑y2.toNat : Int))] l).snd.snd false])
 else none)
 | none => none))
 else (bif decide ((256 : Int) ≤ (u64.wrap (↑l.length : Int)).fdiv ((2 : Int) ^ min (Int.toNat (32 : Int)) u64.bits)) then
 (match idx len8tab (u8.wrap (((u64.wrap (↑l.length : Int)).fdiv ((2 : Int) ^ min (Int.toNat (32 : Int)) u64.bits)).fdiv ((2 : Int) ^ min (Int.toNat (8 : Int)) u64.bits))) with
 | some y3 => (bif (g46 (256 : Nat) [(0 : Int), (↑l.length : Int), i64.wrap (i64.wrap ((32 : Int) + (8 : Int)) + i64.wrap (↑y3.toNat : Int))] l).fst then
 kk (V.tuple []) ([Ob.arr rI (g46 (256 : Nat) [(0 : Int), (↑l.length : Int), i64.wrap (i64.wrap ((32 : Int) + (8 : Int)) + i64.wrap (↑y3.toNat : Int))] l).snd.snd false])
 else none)
 | none => none)
 else (match idx len8tab (u8.wrap ((u64.wrap (↑l.length : Int)).fdiv ((2 : Int) ^ min (Int.toNat (32 : Int)) u64.bits))) with
 | some y4 => (bif (g46 (256 : Nat) [(0 : Int), (↑l.length : Int), i64.wrap ((32 : Int) + i64.wrap (↑y4.toNat : Int))] l).fst then
 kk (V.tuple []) ([Ob.arr rI (g46 (256 : Nat) [(0 : Int), (↑l.length : Int), i64.wrap ((32 : Int) + i64.wrap (↑y4.toNat : Int))] l).snd.snd false])
 else none)
 | none => none)))
 else (bif decide ((65536 : Int) ≤ u64.wrap (↑l.length : Int)) then
 (bif decide ((256 : Int) ≤ (u64.wrap (↑l.length : Int)).fdiv ((2 : Int) ^ min (Int.toNat (16 : Int)) u64.bits)) then
 (match idx len8tab (u8.wrap (((u64.wrap (↑l.length : Int)).fdiv ((2 : Int) ^ min (Int.toNat (16 : Int)) u64.bits)).fdiv ((2 : Int) ^ min (Int.toNat (8 : Int)) u64.bits))) with
 | some y5 => (bif (g46 (256 : Nat) [(0 : Int), (↑l.length : Int), i64.wrap (i64.wrap (i64.wrap ((0 : Int) + (16 : Int)) + (8 : Int)) + i64.wrap (↑y5.toNat : Int))] l).fst then
 kk (V.tuple []) ([Ob.arr rI (g46 (256 : Nat) [(0 : Int), (↑l.length : Int), i64.wrap (i64.wrap (i64.wrap ((0 : Int) + (16 : Int)) + (8 : Int)) + i64.wrap (↑y5.toNat : Int))] l).snd.snd false])
 else none)
 | none => none)
 else (match idx len8tab (u8.wrap ((u64.wrap (↑l.length : Int)).fdiv ((2 : Int) ^ min (Int.toNat (16 : Int)) u64.bits))) with
 | some y6 => (bif (g46 (256 : Nat) [(0 : Int), (↑l.length : Int), i64.wrap (i64.wrap ((0 : Int) + (16 : Int)) + i64.wrap (↑y6.toNat : Int))] l).fst then
 kk (V.tuple []) ([Ob.arr rI (g46 (256 : Nat) [(0 : Int), (↑l.length : Int), i64.wrap (i64.wrap ((0 : Int) + (16 : Int)) + i64.wrap (↑y6.toNat : Int))] l).snd.snd false])
 else none)
 | none => none))
 else (bif decide ((256 : Int) ≤ u64.wrap (↑l.length : Int)) then
 (match idx len8tab (u8.wrap ((u64.wrap (↑l.length : Int)).fdiv ((2 : Int) ^ min (Int.toNat (8 : Int)) u64.bits))) with
 | some y7 => (bif (g46 (256 : Nat) [(0 : Int), (↑l.length : Int), i64.wrap (i64.wrap ((0 : Int) + (8 : Int)) + i64.wrap (↑y7.toNat : Int))] l).fst then
 kk (V.tuple []) ([Ob.arr rI (g46 (256 : Nat) [(0 : Int), (↑l.length : Int), i64.wrap (i64.wrap ((0 : Int) + (8 : Int)) + i64.wrap (↑y7.toNat : Int))] l).snd.snd false])
 else none)
 | none => none)
 else (match idx len8tab (u8.wrap (u64.wrap (↑l.length : Int))) with
 | some y8 => (bif (g46 (256 : Nat) [(0 : Int), (↑l.length : Int), i64.wrap ((0 : Int) + i64.wrap (↑y8.toNat : Int))] l).fst then
 kk (V.tuple []) ([Ob.arr rI (g46 (256 : Nat) [(0 : Int), (↑l.length : Int), i64.wrap ((0 : Int) + i64.wrap (↑y8.toNat : Int))] l).snd.snd false])
 else none)
 | none => none)))) := by kernel_rfl
noncomputable abbrev f24cuts : Cuts := fun _ => none
noncomputable abbrev k24 {Q : Type} (k : V → List Ob → Option Q) := vend (E19 8) 1 (fb Tryd.f24).1.results.toList false k
theorem f24_go (l : List Pt) :
 vseg (E19 8) f24cuts 1 J (k24 kk) 100000 true [.code (fb Tryd.f24).2] (start ([V.own (0 : Nat), V.fn (25 : Nat) [] []]) ([Ob.arr rPitch l false])) =
 (bif decide ((4294967296 : Int) ≤ u64.wrap (↑l.length : Int)) then
 (bif decide ((65536 : Int) ≤ (u64.wrap (↑l.length : Int)).fdiv ((2 : Int) ^ min (Int.toNat (32 : Int)) u64.bits)) then
 (bif decide ((256 : Int) ≤ ((u64.wrap (↑l.length : Int)).fdiv ((2 : Int) ^ min (Int.toNat (32 : Int)) u64.bits)).fdiv ((2 : Int) ^ min (Int.toNat (16 : Int)) u64.bits)) then
 (match idx len8tab (u8.wrap ((((u64.wrap (↑l.length : Int)).fdiv ((2 : Int) ^ min (Int.toNat (32 : Int)) u64.bits)).fdiv ((2 : Int) ^ min (Int.toNat (16 : Int)) u64.bits)).fdiv ((2 : Int) ^ min (Int.toNat (8 : Int)) u64.bits))) with
 | some y1 => (bif (g48 (256 : Nat) [(0 : Int), (↑l.length : Int), i64.wrap (i64.wrap (i64.wrap ((32 : Int) + (16 : Int)) + (8 : Int)) + i64.wrap (↑y1.toNat : Int))] l).fst then
 kk (V.tuple []) ([Ob.arr rPitch (g48 (256 : Nat) [(0 : Int), (↑l.length : Int), i64.wrap (i64.wrap (i64.wrap ((32 : Int) + (16 : Int)) + (8 : Int)) + i64.wrap (↑y1.toNat : Int))] l).snd.snd false])
 else none)
 | none => none)
 else (match idx len8tab (u8.wrap (((u64.wrap (↑l.length : Int)).fdiv ((2 : Int) ^ min (Int.toNat (32 : Int)) u64.bits)).fdiv ((2 : Int) ^ min (Int.toNat (16 : Int)) u64.bits))) with
 | some y2 => (bif (g48 (256 : Nat) [(0 : Int), (↑l.length : Int), i64.wrap (i64.wrap ((32 : Int) + (16 : Int)) + i64.wrap (↑y2.toNat : Int))] l).fst then
 kk (V.tuple []) ([Ob.arr rPitch (g48 (256 : Nat) [(0 : Int), (↑l.length : Int), i64.wrap (i64.wrap ((32 : Int) + (16 : Int)) + i64.wrap (↑y2.toNat : Int))] l).snd.snd false])
 else none)
 | none => none))
 else (bif decide ((256 : Int) ≤ (u64.wrap (↑l.length : Int)).fdiv ((2 : Int) ^ min (Int.toNat (32 : Int)) u64.bits)) then
 (match idx len8tab (u8.wrap (((u64.wrap (↑l.length : Int)).fdiv ((2 : Int) ^ min (Int.toNat (32 : Int)) u64.bits)).fdiv ((2 : Int) ^ min (Int.toNat (8 : Int)) u64.bits))) with
 | some y3 => (bif (g48 (256 : Nat) [(0 : Int), (↑l.length : Int), i64.wrap (i64.wrap ((32 : Int) + (8 : Int)) + i64.wrap (↑y3.toNat : Int))] l).fst then
 kk (V.tuple []) ([Ob.arr rPitch (g48 (256 : Nat) [(0 : Int), (↑l.length : Int), i64.wrap (i64.wrap ((32 : Int) + (8 : Int)) + i64.wrap (↑y3.toNat : Int))] l).snd.snd false])
 else none)
 | none => none)
 else (match idx len8tab (u8.wrap ((u64.wrap (↑l.length : Int)).fdiv ((2 : Int) ^ min (Int.toNat (32 : Int)) u64.bits))) with
 | some y4 => (bif (g48 (256 : Nat) [(0 : Int), (↑l.length : Int), i64.wrap ((32 : Int) + i64.wrap (↑y4.toNat : Int))] l).fst then
 kk (V.tuple []) ([Ob.arr rPitch (g48 (256 : Nat) [(0 : Int), (↑l.length : Int), i64.wrap ((32 : Int) + i64.wrap (↑y4.toNat : Int))] l).snd.snd false])
 else none)
 | none => none)))
 else (bif decide ((65536 : Int) ≤ u64.wrap (↑l.length : Int)) then
 (bif decide ((256 : Int) ≤ (u64.wrap (↑l.length : Int)).fdiv ((2 : Int) ^ min (Int.toNat (16 : Int)) u64.bits)) then
 (match idx len8tab (u8.wrap (((u64.wrap (↑l.length : Int)).fdiv ((2 : Int) ^ min (Int.toNat (16 : Int)) u64.bits)).fdiv ((2 : Int) ^ min (Int.toNat (8 : Int)) u64.bits))) with
 | some y5 => (bif (g48 (256 : Nat) [(0 : Int), (↑l.length : Int), i64.wrap (i64.wrap (i64.wrap ((0 : Int) + (16 : Int)) + (8 : Int)) + i64.wrap (↑y5.toNat : Int))] l).fst then
 kk (V.tuple []) ([Ob.arr rPitch (g48 (256 : Nat) [(0 : Int), (↑l.length : Int), i64.wrap (i64.wrap (i64.wrap ((0 : Int) + (16 : Int)) + (8 : Int)) + i64.wrap (↑y5.toNat : Int))] l).snd.snd false])
 else none)
 | none => none)
 else (match idx len8tab (u8.wrap ((u64.wrap (↑l.length : Int)).fdiv ((2 : Int) ^ min (Int.toNat (16 : Int)) u64.bits))) with
 | some y6 => (bif (g48 (256 : Nat) [(0 : Int), (↑l.length : Int), i64.wrap (i64.wrap ((0 : Int) + (16 : Int)) + i64.wrap (↑y6.toNat : Int))] l).fst then
 kk (V.tuple []) ([Ob.arr rPitch (g48 (256 : Nat) [(0 : Int), (↑l.length : Int), i64.wrap (i64.wrap ((0 : Int) + (16 : Int)) + i64.wrap (↑y6.toNat : Int))] l).snd.snd false])
 else none)
 | none => none))
 else (bif decide ((256 : Int) ≤ u64.wrap (↑l.length : Int)) then
 (match idx len8tab (u8.wrap ((u64.wrap (↑l.length : Int)).fdiv ((2 : Int) ^ min (Int.toNat (8 : Int)) u64.bits))) with
 | some y7 => (bif (g48 (256 : Nat) [(0 : Int), (↑l.length : Int), i64.wrap (i64.wrap ((0 : Int) + (8 : Int)) + i64.wrap (↑y7.toNat : Int))] l).fst then
 kk (V.tuple []) ([Ob.arr rPitch (g48 (256 : Nat) [(0 : Int), (↑l.length : Int), i64.wrap (i64.wrap ((0 : Int) + (8 : Int)) + i64.wrap (↑y7.toNat : Int))] l).snd.snd false])
 else none)
 | none => none)
 else (match idx len8tab (u8.wrap (u64.wrap (↑l.length : Int))) with
 | some y8 => (bif (g48 (256 : Nat) [(0 : Int), (↑l.length : Int), i64.wrap ((0 : Int) + i64.wrap (↑y8.toNat : Int))] l).fst then
 kk (V.tuple []) ([Ob.arr rPitch (g48 (256 : Nat) [(0 : Int), (↑l.length : Int), i64.wrap ((0 : Int) + i64.wrap (↑y8.toNat : Int))] l).snd.snd false])
 else none)
 | none => none)))) := by kernel_rfl
noncomputable abbrev f23cuts : Cuts := look [(4, [0, 3]), (9, [0, 3, 4, 5])]
noncomputable abbrev f23t9 : List Item := itemsAt (fb Tryd.f23).2 9
noncomputable abbrev f23t4 : List Item := itemsAt (fb Tryd.f23).2 4
def f23s0 (n1 : Int) (l2 : List Int) : St := { fr := [(0, V.own 0), (3, V.int i64 n1)], hp := [(0, Ob.arr rI l2 false)], nx := 1 }
def f23s1 (n7 n1 : Int) (l2 : List Int) (n8 : Int) (l9 : List Int) : St := { fr := [(0, V.own 0), (3, V.int i64 n7), (4, V.win (posIn ([] ++ [0]) 0) rI.len n1.toNat ((↑l2.length : Int).toNat - n1.toNat)), (5, V.int i64 n8)], hp := [(0, Ob.arr rI l9 false)], nx := 1 }
def f23s2 (n10 : Int) (l2 : List Int) (n1 n11 : Int) (l12 : List Int) : St := { fr := [(0, V.own 0), (3, V.int i64 n10), (4, V.sl rI (List.take ((↑l2.length : Int).toNat - n1.toNat) (List.drop n1.toNat l2))), (5, V.int i64 n11)], hp := [(0, Ob.arr rI l12 true)], nx := 1 }
noncomputable abbrev k23 {Q : Type} (k : V → List Ob → Option Q) := vend (E19 8) 1 (fb Tryd.f23).1.results.toList true k
theorem f23_go (l : List Int) :
 vseg (E19 8) f23cuts 1 J (k23 kk) 100000 true [.code (fb Tryd.f23).2] (start ([V.own (0 : Nat)]) ([Ob.arr rI l false])) =
 (bif decide ((↑l.length : Int) < (2 : Int)) then
 kk (V.own 0) ([Ob.arr rI l false])
 else J f23t4 (f23s0 (1 : Int) l)) := by kernel_rfl
theorem f23_0 (n1 : Int) (l2 : List Int) :
 vseg (E19 8) f23cuts 1 J (k23 kk) 100000 true f23t4 (f23s0 n1 l2) =
 (bif decide (n1 < (↑l2.length : Int)) then
 (match idx l2 n1 with
 | some _ => (match l2[n1.toNat]? with
 | some y4 => (match idx l2 (i64.wrap (n1 - (1 : Int))) with
 | some _ => (match l2[(i64.wrap (n1 - (1 : Int))).toNat]? with
 | some y6 => (bif decide (y4 = y6) then
 (bif decide (rI.len = (1 : Nat)) && decide ((0 : Nat) < l2.length) then
 (bif decide ((0 : Int) ≤ n1 ∧ n1 ≤ (↑l2.length : Int) ∧ (↑l2.length : Int) ≤ (↑l2.length : Int) ∧ (↑l2.length : Int) ≤ (↑l2.length : Int)) then
 J f23t9 (f23s1 n1 n1 l2 (1 : Int) l2)
 else none)
 else (bif decide ((0 : Int) ≤ n1 ∧ n1 ≤ (↑l2.length : Int) ∧ (↑l2.length : Int) ≤ (↑l2.length : Int) ∧ (↑l2.length : Int) ≤ (↑l2.length : Int)) then
 J f23t9 (f23s2 n1 l2 n1 (1 : Int) l2)
 else none))
 else J f23t4 (f23s0 (i64.wrap (n1 + (1 : Int))) l2))
 | none => none)
 | none => none)
 | none => none)
 | none => none)
 else kk (V.own 0) ([Ob.arr rI l2 false])) := by kernel_rfl
theorem f23_1 (n7 n1 : Int) (l2 : List Int) (n8 : Int) (l9 : List Int) :
 vseg (E19 8) f23cuts 1 J (k23 kk) 100000 true f23t9 (f23s1 n7 n1 l2 n8 l9) =
 (bif decide (n8 < (↑((↑l2.length : Int).toNat - n1.toNat) : Int)) then
 (bif decide (1 = rI.len ∧ (0 : Int) ≤ n8 ∧ n8 < (↑((↑l2.length : Int).toNat - n1.toNat) : Int)) then
 (match l9[n1.toNat + n8.toNat]? with
 | some y13 => (bif decide (1 = rI.len ∧ (0 : Int) ≤ i64.wrap (n8 - (1 : Int)) ∧ i64.wrap (n8 - (1 : Int)) < (↑((↑l2.length : Int).toNat - n1.toNat) : Int)) then
 (match l9[n1.toNat + (i64.wrap (n8 - (1 : Int))).toNat]? with
 | some y14 => (bif !decide (y13 = y14) then
 (bif decide (1 = rI.len ∧ (0 : Int) ≤ n8 ∧ n8 < (↑((↑l2.length : Int).toNat - n1.toNat) : Int)) then
 (match l9[n1.toNat + n8.toNat]? with
 | some y15 => (match idx l9 n7 with
 | some _ => (match l9[n7.toNat]? with
 | some _ => J f23t9 (f23s1 (i64.wrap (n7 + (1 : Int))) n1 l2 (i64.wrap (n8 + (1 : Int))) (l9.set n7.toNat y15))
 | none => none)
 | none => none)
 | none => none)
 else none)
 else J f23t9 (f23s1 n7 n1 l2 (i64.wrap (n8 + (1 : Int))) l9))
 | none => none)
 else none)
 | none => none)
 else none)
 else (bif decide (rI.len = (1 : Nat)) && decide ((0 : Nat) < l9.length) then
 (bif decide ((0 : Int) ≤ n7 ∧ n7 ≤ (↑l9.length : Int) ∧ (↑l9.length : Int) ≤ (↑l9.length : Int) ∧ (↑l9.length : Int) ≤ (↑l9.length : Int)) then
 (bif decide (n7.toNat + ((↑l9.length : Int).toNat - n7.toNat) ≤ l9.length ∧ 1 = rI.len ∧ rI.len = rI.len) then
 (bif decide (rI.len = (1 : Nat)) && decide ((0 : Nat) < (List.take n7.toNat l9 ++ (List.replicate ((↑l9.length : Int).toNat - n7.toNat) (Int.ofNat (0 : Nat)) ++ List.drop (n7.toNat + ((↑l9.length : Int).toNat - n7.toNat)) l9)).length) then
 (bif decide ((0 : Int) ≤ (0 : Int) ∧ (0 : Int) ≤ n7 ∧ n7 ≤ (↑(List.take n7.toNat l9 ++ (List.replicate ((↑l9.length : Int).toNat - n7.toNat) (Int.ofNat (0 : Nat)) ++ List.drop (n7.toNat + ((↑l9.length : Int).toNat - n7.toNat)) l9)).length : Int) ∧ (↑(List.take n7.toNat l9 ++ (List.replicate ((↑l9.length : Int).toNat - n7.toNat) (Int.ofNat (0 : Nat)) ++ List.drop (n7.toNat + ((↑l9.length : Int).toNat - n7.toNat)) l9)).length : Int) ≤ (↑(List.take n7.toNat l9 ++ (List.replicate ((↑l9.length : Int).toNat - n7.toNat) (Int.ofNat (0 : Nat)) ++ List.drop (n7.toNat + ((↑l9.length : Int).toNat - n7.toNat)) l9)).length : Int)) then
 kk (V.win (posIn ([] ++ [0]) 0) rI.len (Int.toNat (0 : Int)) (n7.toNat - Int.toNat (0 : Int))) ([Ob.arr rI (List.take n7.toNat l9 ++ (List.replicate ((↑l9.length : Int).toNat - n7.toNat) (Int.ofNat (0 : Nat)) ++ List.drop (n7.toNat + ((↑l9.length : Int).toNat - n7.toNat)) l9)) false])
 else none)
 else (bif decide ((0 : Int) ≤ (0 : Int) ∧ (0 : Int) ≤ n7 ∧ n7 ≤ (↑(List.take n7.toNat l9 ++ (List.replicate ((↑l9.length : Int).toNat - n7.toNat) (Int.ofNat (0 : Nat)) ++ List.drop (n7.toNat + ((↑l9.length : Int).toNat - n7.toNat)) l9)).length : Int) ∧ (↑(List.take n7.toNat l9 ++ (List.replicate ((↑l9.length : Int).toNat - n7.toNat) (Int.ofNat (0 : Nat)) ++ List.drop (n7.toNat + ((↑l9.length : Int).toNat - n7.toNat)) l9)).length : Int) ≤ (↑(List.take n7.toNat l9 ++ (List.replicate ((↑l9.length : Int).toNat - n7.toNat) (Int.ofNat (0 : Nat)) ++ List.drop (n7.toNat + ((↑l9.length : Int).toNat - n7.toNat)) l9)).length : Int)) then
 kk (V.sl rI (List.take (n7.toNat - Int.toNat (0 : Int)) (List.drop (Int.toNat (0 : Int)) (List.take n7.toNat l9 ++ (List.replicate ((↑l9.length : Int).toNat - n7.toNat) (Int.ofNat (0 : Nat)) ++ List.drop (n7.toNat + ((↑l9.length : Int).toNat - n7.toNat)) l9))))) ([Ob.arr rI (List.take n7.toNat l9 ++ (List.replicate ((↑l9.length : Int).toNat - n7.toNat) (Int.ofNat (0 : Nat)) ++ List.drop (n7.toNat + ((↑l9.length : Int).toNat - n7.toNat)) l9)) true])
 else none))
 else none)
 else none)
 else (bif decide ((0 : Int) ≤ n7 ∧ n7 ≤ (↑l9.length : Int) ∧ (↑l9.length : Int) ≤ (↑l9.length : Int) ∧ (↑l9.length : Int) ≤ (↑l9.length : Int)) then
 none
 else none))) := by kernel_rfl
end Vm.S6b
open Go
namespace Vm
section
variable {P : Program} {gl : Gl}
theorem Contract.freeze0 {f : Nat} {args : List V} {os : List Ob} {v v' : V} {r : Ks} {xs : List r.Ty} {fz : Bool} (hc : Contract P gl f args os v [.arr r xs fz]) (hp : v.plain (obs [.arr r xs fz]) = some (v', [0])) (hi : v'.ids = []) : Contract P gl f args os v' [.arr r xs true] := by
 intro w A η ok cs hrep hdom o a Q K hK
 refine hc w A η ok cs hrep hdom o a Q K fun c w' A' η' k1 k2 k3 k4 => ?_
 have st := HStep.freeze (m := rootsN args) k1 (i := 0) (fz := fz) (r := r) (xs := xs) rfl
 have e : ovr (obs [Ob.arr r xs fz]) 0 (.arr r xs true) = obs [.arr r xs true] := by
  funext j
  cases j with
  | zero => rfl
  | succ j => cases j <;> rfl
 rw [e] at st
 refine hK c w' _ η' st.ok (k2.trans' st.link) ?_ (by simp [hi])
 have h1 := (V.plain_rep k1 v v' [0] hp c k3).1 (fun b => A' b ∨ η' 0 = some b) (fun b hb => .inl hb) (fun i hm b hb => by simp at hm; subst hm; exact .inr hb)
 exact V.Rep.mono (I := fun _ => False) ⟨fun b hb => ⟨hb, rfl⟩, fun _ h => h.elim, fun _ _ h => h.elim⟩ _ _ (by simp [hi]) h1
def ownI : List V → Bool
 | [.own i] => Nat.beq i 0
 | _ => false
theorem ownI_eq {l : List V} (h : ownI l = true) : l = [.own 0] := by
 unfold ownI at h
 split at h
 ·rw [Nat.eq_of_beq_eq_true h]
 ·cases h
def Entry.ownF (f : Nat) (r : Ks) (g : List r.Ty → Bool × V × List r.Ty)
    (says : ∀ l, (g l).1 = true → Contract P gl f [.own 0] [.arr r l false] (g l).2.1 [.arr r (g l).2.2 true]) : Entry P gl where
 f := f
 g := fun args os => match os with
   | [o] => match arrX r o with
     | some l => bif ownI args then some ((g l).1, (g l).2.1, [.arr r (g l).2.2 true]) else none
     | _ => none
   | _ => none
 says := fun args os c v os' h hc => by
  subst hc
  split at h
  ·rename_i o
   split at h
   ·rename_i l h2
    cases hb : ownI args with
    | false => rw [hb, cond_false] at h; cases h
    | true =>
      rw [hb, cond_true] at h
      rw [ownI_eq hb, arrX_eq h2]
      simp only [Option.some.injEq, Prod.mk.injEq] at h
      obtain ⟨h3, rfl, rfl⟩ := h
      exact says l h3
   ·cases h
  ·cases h
end
theorem compI_snoc (a : Int) : ∀ xs : List Int, compI (xs ++ [a]) = if xs.getLast? = some a then compI xs else compI xs ++ [a]
 | [] => by rw [if_neg (by simp)]; rfl
 | [b] => by
   simp only [List.cons_append, List.nil_append, compI, List.getLast?_singleton, Option.some.injEq]
   split
   ·rename_i h; subst h; rfl
   ·rfl
 | b :: c :: r => by
   have ih := compI_snoc a (c :: r)
   have e : (b :: c :: r).getLast? = (c :: r).getLast? := by simp [List.getLast?_cons_cons]
   rw [e]
   simp only [List.cons_append, compI] at ih ⊢
   by_cases h : b = c
   ·rw [if_pos h, if_pos h]; exact ih
   ·rw [if_neg h, if_neg h, ih]
    split <;> rfl
theorem compI_take {l : List Int} {j : Nat} (hj : j < l.length) (h0 : 0 < j) : compI (l.take (j + 1)) = if l[j - 1]? = l[j]? then compI (l.take j) else compI (l.take j) ++ [l[j]] := by
 have e : l.take (j + 1) = l.take j ++ [l[j]] := by simp
 rw [e, compI_snoc]
 have e2 : (l.take j).getLast? = l[j - 1]? := by
  rw [List.getLast?_eq_getElem?, List.length_take, List.getElem?_take_of_lt (by omega)]
  congr 1; omega
 rw [e2, List.getElem?_eq_getElem hj]
theorem compI_one {l : List Int} (h : 0 < l.length) : compI (l.take 1) = l.take 1 := by
 cases l with
 | nil => cases h
 | cons a r => rfl
def compZ (l : List Int) : List Int := compI l ++ List.replicate (l.length - (compI l).length) 0
end Vm
open Go Go.Proofs
namespace Vm.S6b
theorem f24_run {R : Type} (kk : V → List Ob → Option R) (l : List Pt) (hc : ckP l = true) (h : l.length < 256) :
  vrun (E19 8) f24cuts 1 100000 (k24 kk) 1 [.code (fb Tryd.f24).2] (start [.own 0, .fn 25 [] []] [.arr rPitch l false]) =
   kk (.tuple []) [.arr rPitch (arL encP (Go.Sort.sort ltR (liftR l))) false] := by
 rw [vrun_succ]
 refine (f24_go _ kk l).trans ?_
 have e : arL encP (liftR l) = l := liftP_ok hc
 have hsz : (liftR l).size = l.length := by
  have := congrArg List.length e
  rwa [arL_len] at this
 obtain ⟨n, hn⟩ : ∃ n, l.length = n := ⟨_, rfl⟩
 rw [hn] at h hsz
 obtain ⟨g1, g2⟩ := len8_get n h
 have w8 : IntKind.wrap .u8 (n : Int) = (n : Int) := wrap_small (by simp [IntKind.min, IntKind.signed]) (by simp [IntKind.max, IntKind.signed, IntKind.bits]; omega)
 have hb : (UInt8.ofNat (Go.Sort.bitsLen n)).toNat = Go.Sort.bitsLen n := UInt8.toNat_ofNat_of_lt' (by simp [UInt8.size]; omega)
 rw [hn, wuu (n := (n : Int)) (by omega) (by omega), bif_neg (by exact decide_eq_false (by omega)), bif_neg (by exact decide_eq_false (by omega)), bif_neg (by exact decide_eq_false (by omega)), w8, idx_nat, g1]
 dsimp only
 rw [hb, w64 (n := (Go.Sort.bitsLen n : Int)) (by omega) (by omega), Int.zero_add, w64 (n := (Go.Sort.bitsLen n : Int)) (by omega) (by omega)]
 have hB : belowB ltR (0 : Int).toNat ((n : Int)).toNat (liftR l) = true := belowB_eq (.inl rfl)
 simp only [g48]
 rw [hc, hB, Bool.true_and, Bool.and_true, bif_pos (by exact decide_eq_true (by omega))]
 unfold Go.Sort.sort
 rw [hsz]
 rfl
noncomputable def f24e : Entry Tryd.prog gls := .ownS 24 rPitch (some 25) (fun ns l => match ns with
  | [] => (ckP l && decide (l.length < 256), .tuple [], arL encP (Go.Sort.sort ltR (liftR l)))
  | _ => (false, .undef, l)) fun ns l h => by
 match ns, h with
 | [], h =>
   simp only [Bool.and_eq_true, decide_eq_true_eq] at h
   have := contract_of (P := Tryd.prog) (E := E19 8) (args := [.own 0, .fn 25 [] []]) (os := [.arr rPitch l false]) mixed (ready19 8) (f := 24) (fn := (fb Tryd.f24).1) (c := (fb Tryd.f24).2) Tryd.func24 (by kernel_rfl) (by kernel_rfl) (by decide) (by rw [glE19]; exact rfOk_no (by kernel_rfl)) (f24_run (fun v os => some (v, os)) l h.1 h.2) (Nat.le_refl 1)
   rw [glE19] at this
   exact this
theorem f22_run {R : Type} (kk : V → List Ob → Option R) (l : List Int) (hc : ckI l = true) (h : l.length < 256) :
  vrun (E19 8) f22cuts 1 100000 (k22 kk) 1 [.code (fb Tryd.f22).2] (start [.own 0] [.arr rI l false]) =
   kk (.tuple []) [.arr rI (arL encI (Go.Sort.sort Go.Sort.ltInt (liftI l))) false] := by
 rw [vrun_succ]
 refine (f22_go _ kk l).trans ?_
 have e : arL encI (liftI l) = l := liftI_ok hc
 have hsz : (liftI l).size = l.length := by
  have := congrArg List.length e
  rwa [arL_len] at this
 obtain ⟨n, hn⟩ : ∃ n, l.length = n := ⟨_, rfl⟩
 rw [hn] at h hsz
 obtain ⟨g1, g2⟩ := len8_get n h
 have w8 : IntKind.wrap .u8 (n : Int) = (n : Int) := wrap_small (by simp [IntKind.min, IntKind.signed]) (by simp [IntKind.max, IntKind.signed, IntKind.bits]; omega)
 have hb : (UInt8.ofNat (Go.Sort.bitsLen n)).toNat = Go.Sort.bitsLen n := UInt8.toNat_ofNat_of_lt' (by simp [UInt8.size]; omega)
 rw [hn, wuu (n := (n : Int)) (by omega) (by omega), bif_neg (by exact decide_eq_false (by omega)), bif_neg (by exact decide_eq_false (by omega)), bif_neg (by exact decide_eq_false (by omega)), w8, idx_nat, g1]
 dsimp only
 rw [hb, w64 (n := (Go.Sort.bitsLen n : Int)) (by omega) (by omega), Int.zero_add, w64 (n := (Go.Sort.bitsLen n : Int)) (by omega) (by omega)]
 have hB : belowB Go.Sort.ltInt (0 : Int).toNat ((n : Int)).toNat (liftI l) = true := belowB_eq (.inl rfl)
 simp only [g46]
 rw [hc, hB, Bool.true_and, Bool.and_true, bif_pos (by exact decide_eq_true (by omega))]
 unfold Go.Sort.sort
 rw [hsz]
 rfl
noncomputable def f22e : Entry Tryd.prog gls := .ownS 22 rI none (fun ns l => match ns with
  | [] => (ckI l && decide (l.length < 256), .tuple [], arL encI (Go.Sort.sort Go.Sort.ltInt (liftI l)))
  | _ => (false, .undef, l)) fun ns l h => by
 match ns, h with
 | [], h =>
   simp only [Bool.and_eq_true, decide_eq_true_eq] at h
   have := contract_of (P := Tryd.prog) (E := E19 8) (args := [.own 0]) (os := [.arr rI l false]) mixed (ready19 8) (f := 22) (fn := (fb Tryd.f22).1) (c := (fb Tryd.f22).2) Tryd.func22 (by kernel_rfl) (by kernel_rfl) (by decide) (by rw [glE19]; exact rfOk_no (by kernel_rfl)) (f22_run (fun v os => some (v, os)) l h.1 h.2) (Nat.le_refl 1)
   rw [glE19] at this
   exact this
theorem compZ_of {l : List Int} (h : compI l = l) : compZ l = l := by
 unfold compZ
 rw [h, Nat.sub_self]
 exact List.append_nil l
def Cmp23 {R : Type} (kk : V → List Ob → Option R) (l : List Int) (x : Nat → Option R) : Prop := ∃ N v, x N = kk v [.arr rI (compZ l) false] ∧ v.plain (obs [Ob.arr rI (compZ l) false]) = some (.sl rI (compI l), [0])
theorem f23_e {R : Type} (kk : V → List Ob → Option R) (l : List Int) (hl : l.length < 1000000000) (k m i : Nat) (arr : List Int) (hj : k + m = l.length) (hm : 1 ≤ m) (hi : i < k + m) (ha : arr.length = l.length) (ht : arr.take i = compI (l.take (k + m))) (hc : (compI (l.take (k + m))).length = i) :
  Cmp23 kk l fun N => vrun (E19 8) f23cuts 1 100000 (k23 kk) N f23t9 (f23s1 i k l m arr) := by
 rw [hj, List.take_length] at ht hc
 refine ⟨1, .win 0 1 0 i, ?_, ?_⟩
 ·dsimp only
  rw [vrun_succ, f23_1]
  simp only [Int.toNat_natCast, ha]
  rw [bif_neg (by exact decide_eq_false (by omega)), bif_pos (by rw [Bool.and_eq_true]; exact ⟨rfl, decide_eq_true (by omega)⟩), bif_pos (by exact decide_eq_true (by omega)), bif_pos (by exact decide_eq_true (by refine ⟨by omega, ?_, ?_⟩ <;> first | trivial | rfl))]
  have e : List.take i arr ++ (List.replicate (l.length - i) (Int.ofNat 0) ++ List.drop (i + (l.length - i)) arr) = compZ l := by
   rw [List.drop_of_length_le (by omega), List.append_nil, ht]
   unfold compZ
   rw [hc]
   rfl
  rw [e]
  have hz : (compZ l).length = l.length := by
   unfold compZ
   rw [List.length_append, List.length_replicate, hc]; omega
  rw [hz, bif_pos (by rw [Bool.and_eq_true]; exact ⟨rfl, decide_eq_true (by omega)⟩), bif_pos (by exact decide_eq_true (by omega))]
  rfl
 ·have hz : (compZ l).length = l.length := by
    unfold compZ
    rw [List.length_append, List.length_replicate, hc]; omega
  show (if 1 = rI.len ∧ 0 + i ≤ (compZ l).length then some (V.sl rI (((compZ l).drop 0).take i), [0]) else none) = _
  rw [if_pos ⟨rfl, by omega⟩]
  have e2 : (compZ l).take i = compI l := by
   unfold compZ
   rw [← hc, List.take_left']
   rfl
  exact congrArg (fun z : List (Ks.Ty rI) => some (V.sl rI z, [0])) e2
theorem f23_w {R : Type} (kk : V → List Ob → Option R) (l : List Int) (hl : l.length < 1000000000) (k : Nat) : ∀ (n m i : Nat) (arr : List Int), l.length - (k + m) ≤ n → k + m ≤ l.length → 1 ≤ m → i < k + m → arr.length = l.length → arr.take i = compI (l.take (k + m)) → (compI (l.take (k + m))).length = i → (∀ q, k + m - 1 ≤ q → arr[q]? = l[q]?) →
  Cmp23 kk l fun N => vrun (E19 8) f23cuts 1 100000 (k23 kk) N f23t9 (f23s1 i k l m arr) := by
 intro n
 induction n with
 | zero =>
   intro m i arr hn hk hm hi ha ht hc hq
   exact f23_e kk l hl k m i arr (by omega) hm hi ha ht hc
 | succ n ih =>
   intro m i arr hn hk hm hi ha ht hc hq
   by_cases hj : k + m = l.length
   ·exact f23_e kk l hl k m i arr hj hm hi ha ht hc
   ·have hlt : k + m < l.length := by omega
    have g1 : arr[k + m]? = some l[k + m] := by rw [hq _ (by omega), List.getElem?_eq_getElem hlt]
    have g2 : arr[k + (m - 1)]? = some l[k + m - 1] := by rw [show k + (m - 1) = k + m - 1 by omega, hq _ (by omega), List.getElem?_eq_getElem (by omega)]
    have key := compI_take hlt (by omega)
    rw [List.getElem?_eq_getElem hlt, List.getElem?_eq_getElem (show k + m - 1 < l.length by omega)] at key
    have step : ∀ N, vrun (E19 8) f23cuts 1 100000 (k23 kk) (N + 1) f23t9 (f23s1 i k l m arr) = (bif !decide (l[k + m] = l[k + m - 1]) then vrun (E19 8) f23cuts 1 100000 (k23 kk) N f23t9 (f23s1 ((i + 1 : Nat) : Int) k l ((m + 1 : Nat) : Int) (arr.set i l[k + m])) else vrun (E19 8) f23cuts 1 100000 (k23 kk) N f23t9 (f23s1 i k l ((m + 1 : Nat) : Int) arr)) := fun N => by
     rw [vrun_succ, f23_1]
     simp only [Int.toNat_natCast]
     rw [bif_pos (by exact decide_eq_true (by omega)), bif_pos (by exact decide_eq_true ⟨rfl, by omega, by omega⟩), g1, wsub1 (by omega) (by omega)]
     simp only [Int.toNat_natCast]
     rw [bif_pos (by exact decide_eq_true ⟨rfl, by omega, by omega⟩), g2]
     simp only []
     rw [bif_pos (c := decide (1 = rI.len ∧ (0 : Int) ≤ (m : Int) ∧ (m : Int) < ((l.length - k : Nat) : Int))) (by exact decide_eq_true ⟨rfl, by omega, by omega⟩), wadd1 (by omega), wadd1 (by omega), idx_nat, List.getElem?_eq_getElem (show i < arr.length by omega)]
    by_cases he : l[k + m] = l[k + m - 1]
    ·rw [if_pos (by rw [he])] at key
     obtain ⟨N, v, h1, h2⟩ := ih (m + 1) i arr (by omega) (by omega) (by omega) (by omega) ha (by rw [show k + (m + 1) = k + m + 1 by omega, key]; exact ht) (by rw [show k + (m + 1) = k + m + 1 by omega, key]; exact hc) (fun q hq' => hq q (by omega))
     exact ⟨N + 1, v, by dsimp only; rw [step, decide_eq_true he]; exact h1, h2⟩
    ·rw [if_neg (fun h => he (Option.some.inj h).symm)] at key
     obtain ⟨N, v, h1, h2⟩ := ih (m + 1) (i + 1) (arr.set i l[k + m]) (by omega) (by omega) (by omega) (by omega) (by rw [List.length_set]; exact ha)
      (by
        rw [show k + (m + 1) = k + m + 1 by omega, key, ← ht]
        have hia : i < arr.length := by omega
        apply List.ext_getElem?
        intro q
        rw [List.getElem?_take, List.getElem?_append, List.getElem?_take, List.getElem?_set, List.length_take]
        by_cases hq1 : q < i
        ·rw [if_pos (by omega), if_neg (by omega), if_pos (by omega), if_pos hq1]
        ·by_cases hq2 : q = i
         ·subst hq2
          rw [if_pos (by omega), if_pos rfl, if_pos (by omega), if_neg (by omega), show q - min q arr.length = 0 by omega]; rfl
         ·rw [if_neg (by omega), if_neg (by omega), List.getElem?_eq_none (by simp; omega)])
      (by rw [show k + (m + 1) = k + m + 1 by omega, key, List.length_append, hc]; rfl)
      (fun q hq' => by rw [List.getElem?_set, if_neg (by omega)]; exact hq q (by omega))
     exact ⟨N + 1, v, by dsimp only; rw [step, decide_eq_false he]; exact h1, h2⟩
theorem f23_s {R : Type} (kk : V → List Ob → Option R) (l : List Int) (hl : l.length < 1000000000) : ∀ (n k : Nat), l.length - k ≤ n → 1 ≤ k → k ≤ l.length → compI (l.take k) = l.take k →
  Cmp23 kk l fun N => vrun (E19 8) f23cuts 1 100000 (k23 kk) N f23t4 (f23s0 k l) := by
 intro n
 induction n with
 | zero =>
   intro k hn hk hk2 hc
   rw [show k = l.length by omega, List.take_length] at hc
   refine ⟨1, .own 0, ?_, ?_⟩
   ·dsimp only
    rw [vrun_succ, f23_0, bif_neg (by exact decide_eq_false (by omega)), compZ_of hc]
   ·rw [compZ_of hc, hc]; rfl
 | succ n ih =>
   intro k hn hk hk2 hc
   by_cases hj : k = l.length
   ·rw [hj, List.take_length] at hc
    refine ⟨1, .own 0, ?_, ?_⟩
    ·dsimp only
     rw [vrun_succ, f23_0, bif_neg (by exact decide_eq_false (by omega)), compZ_of hc]
    ·rw [compZ_of hc, hc]; rfl
   ·have hlt : k < l.length := by omega
    have key := compI_take hlt (by omega)
    rw [List.getElem?_eq_getElem hlt, List.getElem?_eq_getElem (show k - 1 < l.length by omega)] at key
    have step : ∀ N, vrun (E19 8) f23cuts 1 100000 (k23 kk) (N + 1) f23t4 (f23s0 k l) = (bif decide (l[k] = l[k - 1]) then vrun (E19 8) f23cuts 1 100000 (k23 kk) N f23t9 (f23s1 k k l ((1 : Nat) : Int) l) else vrun (E19 8) f23cuts 1 100000 (k23 kk) N f23t4 (f23s0 ((k + 1 : Nat) : Int) l)) := fun N => by
     rw [vrun_succ, f23_0, bif_pos (by exact decide_eq_true (by omega)), wsub1 (by omega) (by omega), wadd1 (by omega), idx_nat, idx_nat]
     simp only [Int.toNat_natCast]
     rw [List.getElem?_eq_getElem hlt, List.getElem?_eq_getElem (show k - 1 < l.length by omega)]
     simp only []
     rw [bif_pos (c := decide (rI.len = 1) && decide (0 < l.length)) (by rw [Bool.and_eq_true]; exact ⟨rfl, decide_eq_true (by omega)⟩), bif_pos (c := decide ((0 : Int) ≤ k ∧ (k : Int) ≤ (l.length : Int) ∧ (l.length : Int) ≤ (l.length : Int) ∧ (l.length : Int) ≤ (l.length : Int))) (by exact decide_eq_true (by omega))]
     rfl
    by_cases he : l[k] = l[k - 1]
    ·rw [if_pos (by rw [he])] at key
     obtain ⟨N, v, h1, h2⟩ := f23_w kk l hl k (l.length - (k + 1)) 1 k l (by omega) (by omega) (by omega) (by omega) rfl (by rw [key, hc]) (by rw [key, hc, List.length_take]; omega) (fun _ _ => rfl)
     exact ⟨N + 1, v, by dsimp only; rw [step, decide_eq_true he]; exact h1, h2⟩
    ·rw [if_neg (fun h => he (Option.some.inj h).symm)] at key
     obtain ⟨N, v, h1, h2⟩ := ih (k + 1) (by omega) (by omega) (by omega) (by rw [key, hc]; simp)
     exact ⟨N + 1, v, by dsimp only; rw [step, decide_eq_false he]; exact h1, h2⟩
theorem f23_run {R : Type} (kk : V → List Ob → Option R) (l : List Int) (hl : l.length < 1000000000) :
  Cmp23 kk l fun N => vrun (E19 8) f23cuts 1 100000 (k23 kk) N [.code (fb Tryd.f23).2] (start [.own 0] [.arr rI l false]) := by
 by_cases h2 : l.length < 2
 ·have hc : compI l = l := by
    match l, h2 with
    | [], _ => rfl
    | [a], _ => rfl
    | a :: b :: r, h2 => simp at h2; omega
  refine ⟨1, .own 0, ?_, ?_⟩
  ·dsimp only
   rw [vrun_succ]
   refine (f23_go _ kk l).trans ?_
   rw [bif_pos (by exact decide_eq_true (by omega)), compZ_of hc]
  ·rw [compZ_of hc, hc]; rfl
 ·obtain ⟨N, v, h1, h3⟩ := f23_s kk l hl l.length 1 (by omega) (by omega) (by omega) (compI_one (by omega))
  refine ⟨N + 1, v, ?_, h3⟩
  dsimp only
  rw [vrun_succ]
  refine (f23_go _ kk l).trans ?_
  rw [bif_neg (by exact decide_eq_false (by omega))]
  exact h1
noncomputable def f23e : Entry Tryd.prog gls := .ownF 23 rI (fun (l : List Int) => (decide (l.length < 1000000000), .sl rI (compI l), compZ l)) fun l h => by
 obtain ⟨N, v, h1, h2⟩ := f23_run (fun v os => some (v, os)) l (of_decide_eq_true h)
 have := contract_of (P := Tryd.prog) (E := E19 8) (args := [.own 0]) (os := [.arr rI l false]) mixed (ready19 8) (f := 23) (fn := (fb Tryd.f23).1) (c := (fb Tryd.f23).2) Tryd.func23 (by kernel_rfl) (by kernel_rfl) (by decide) (by rw [glE19]; exact rfOk_no (by kernel_rfl)) h1 (Nat.le_refl 1)
 rw [glE19] at this
 exact this.freeze0 h2 rfl
noncomputable def es20 : List (Entry Tryd.prog gls) := [f22e, f24e, f23e] ++ es19
noncomputable def E20 (n : Nat) : Env := interp fns (look tys) gls mvs (tabOf es20) 100000 n
theorem ready20 (n : Nat) : Ready Tryd.prog (E20 n) := ready_of mixed fnsAll tysOk rfsOk n
theorem glE20 (n : Nat) : (E20 n).gl = gls := by cases n <;> rfl
end Vm.S6b
open Go Go.Proofs Go.IntKind
namespace Vm.S6b
variable {R : Type} (J : List Item → St → Option R) (kk : V → List Ob → Option R)
noncomputable abbrev f45cuts : Cuts := look [(2, [0, 1, 7, 8])]
noncomputable abbrev f45t2 : List Item := itemsAt (fb Tryd.f45).2 2
def f45s0 (l : List Ev) (n1 : Int) : St := { fr := [(0, V.sl rEvent l), (1, V.fn 21 [] []), (7, V.int i64 (↑l.length : Int)), (8, V.int i64 n1)], hp := [], nx := 0 }
noncomputable abbrev k45 {Q : Type} (k : V → List Ob → Option Q) := vend (E20 8) 0 (fb Tryd.f45).1.results.toList false k
theorem f45_go (l : List Ev) :
 vseg (E20 8) f45cuts 0 J (k45 kk) 100000 true [.code (fb Tryd.f45).2] (start ([V.sl rEvent l, V.fn (21 : Nat) [] []]) ([])) =
 J f45t2 (f45s0 l (0 : Int)) := by kernel_rfl
theorem f45_0 (l : List Ev) (n1 : Int) :
 vseg (E20 8) f45cuts 0 J (k45 kk) 100000 true f45t2 (f45s0 l n1) =
 (bif decide (n1 < (↑l.length : Int)) then
 (match idx l n1 with
 | some y2 => (bif Ev.okm y2 then
 (bif !Ev.right y2 then
 kk (V.int i64 n1) ([])
 else J f45t2 (f45s0 l (i64.wrap (n1 + (1 : Int)))))
 else none)
 | none => none)
 else kk (V.int i64 ((-1 : Int))) ([])) := by kernel_rfl
noncomputable abbrev f28cuts : Cuts := look [(2, [0, 1, 5])]
noncomputable abbrev f28t2 : List Item := itemsAt (fb Tryd.f28).2 2
def f28s0 (l : List Int) (n n1 : Int) : St := { fr := [(0, V.sl rI l), (1, V.int i64 n), (5, V.int i64 n1)], hp := [], nx := 0 }
noncomputable abbrev k28 {Q : Type} (k : V → List Ob → Option Q) := vend (E20 8) 0 (fb Tryd.f28).1.results.toList false k
theorem f28_go (l : List Int) (n : Int) :
 vseg (E20 8) f28cuts 0 J (k28 kk) 100000 true [.code (fb Tryd.f28).2] (start ([V.sl rI l, V.int i64 n]) ([])) =
 J f28t2 (f28s0 l n (0 : Int)) := by kernel_rfl
theorem f28_0 (l : List Int) (n n1 : Int) :
 vseg (E20 8) f28cuts 0 J (k28 kk) 100000 true f28t2 (f28s0 l n n1) =
 (bif decide (n1 < (↑l.length : Int)) then
 (match idx l n1 with
 | some y2 => (bif decide (y2 = n) then
 kk (V.bool true) ([])
 else J f28t2 (f28s0 l n (i64.wrap (n1 + (1 : Int)))))
 | none => none)
 else kk (V.bool false) ([])) := by kernel_rfl
noncomputable abbrev f9cuts : Cuts := look [(2, [0, 3])]
noncomputable abbrev f9t2 : List Item := itemsAt (fb Tryd.f9).2 2
def f9s0 (l : List Ev) (n1 : Int) : St := { fr := [(0, V.sl rEvent l), (3, V.int i64 n1)], hp := [], nx := 0 }
noncomputable abbrev k9 {Q : Type} (k : V → List Ob → Option Q) := vend (E20 8) 0 (fb Tryd.f9).1.results.toList false k
theorem f9_go (l : List Ev) :
 vseg (E20 8) f9cuts 0 J (k9 kk) 100000 true [.code (fb Tryd.f9).2] (start ([V.sl rEvent l]) ([])) =
 J f9t2 (f9s0 l (0 : Int)) := by kernel_rfl
theorem f9_0 (l : List Ev) (n1 : Int) :
 vseg (E20 8) f9cuts 0 J (k9 kk) 100000 true f9t2 (f9s0 l n1) =
 (bif decide (n1 < (↑l.length : Int)) then
 (bif decide (n1 < (7 : Int)) then
 (match idx l n1 with
 | some y2 => (bif decide ((↑(List.length y2.snd.fst) : Int) ≤ (20 : Int)) then
 (bif decide ((↑(List.length y2.snd.snd.fst) : Int) ≤ (20 : Int)) then
 (bif decide ((↑(List.length y2.snd.snd.snd.snd.snd.snd.snd.fst) : Int) ≤ (20 : Int)) then
 (bif !decide ((↑(List.length y2.snd.snd.snd.snd.snd.snd.snd.snd) : Int) ≤ (100 : Int)) then
 kk (V.bool false) ([])
 else J f9t2 (f9s0 l (i64.wrap (n1 + (1 : Int)))))
 else kk (V.bool false) ([]))
 else kk (V.bool false) ([]))
 else kk (V.bool false) ([]))
 | none => none)
 else kk (V.bool (decide ((↑l.length : Int) ≤ (6 : Int)))) ([]))
 else kk (V.bool (decide ((↑l.length : Int) ≤ (6 : Int)))) ([])) := by kernel_rfl
noncomputable abbrev f27cuts : Cuts := look [(4, [2, 3, 4, 6, 7, 8, 9]), (13, [3, 6, 7, 8, 9])]
noncomputable abbrev f27t13 : List Item := itemsAt (fb Tryd.f27).2 13
noncomputable abbrev f27t4 : List Item := itemsAt (fb Tryd.f27).2 4
def f27s0 (t : Bool) (n1 n2 : Int) (l3 : List Pt) (l4 : List Bool) (n5 n6 n7 n8 : Int) (s9 : List UInt8) (x10 : Int × Int × Int) (n11 n12 n13 n14 n15 : Int) (s16 : List UInt8) : St := { fr := [(2, V.bool t), (3, V.ref 0 0 0 0), (4, V.ref 1 0 0 0), (6, V.ref 2 0 0 0), (7, V.nilsl), (8, V.nilsl), (9, V.int i64 n1)], hp := [(0, Ob.var [V.int i64 n2, V.sl rPitch l3, V.sl rB l4, V.int i64 n5, V.int i64 n6, V.int i64 n7, V.int i64 n8, V.nilsl, V.str s9]), (1, Ob.var [V.int i64 x10.fst, V.int i64 x10.snd.fst, V.int i64 x10.snd.snd]), (2, Ob.var [V.int i64 n11, V.nilsl, V.nilsl, V.int i64 n12, V.int i64 n13, V.int i64 n14, V.int i64 n15, V.nilsl, V.str s16])], nx := 3 }
def f27s1 (t : Bool) (n20 n21 : Int) (l22 : List Pt) (l23 : List Bool) (n24 n25 n26 n27 : Int) (s28 : List UInt8) (x29 : Int × Int × Int) (n30 n31 n32 n33 n34 : Int) (s35 : List UInt8) (l36 : List Pt) (l37 : List Bool) : St := { fr := [(2, V.bool t), (3, V.ref 0 0 0 0), (4, V.ref 1 0 0 0), (6, V.ref 2 0 0 0), (7, V.own 3), (8, V.own 4), (9, V.int i64 n20)], hp := [(0, Ob.var [V.int i64 n21, V.sl rPitch l22, V.sl rB l23, V.int i64 n24, V.int i64 n25, V.int i64 n26, V.int i64 n27, V.nilsl, V.str s28]), (1, Ob.var [V.int i64 x29.fst, V.int i64 x29.snd.fst, V.int i64 x29.snd.snd]), (2, Ob.var [V.int i64 n30, V.nilsl, V.nilsl, V.int i64 n31, V.int i64 n32, V.int i64 n33, V.int i64 n34, V.nilsl, V.str s35]), (3, Ob.arr rPitch l36 false), (4, Ob.arr rB l37 false)], nx := 5 }
def f27s2 (n39 n40 : Int) (l41 : List Pt) (l42 : List Bool) (n43 n44 n45 n46 : Int) (s47 : List UInt8) (n48 n49 n50 n51 n52 : Int) (s53 : List UInt8) (l54 : List Pt) (l55 : List Bool) : St := { fr := [(3, V.ref 0 0 0 0), (6, V.ref 1 0 0 0), (7, V.own 2), (8, V.own 3), (9, V.int i64 n39)], hp := [(0, Ob.var [V.int i64 n40, V.sl rPitch l41, V.sl rB l42, V.int i64 n43, V.int i64 n44, V.int i64 n45, V.int i64 n46, V.nilsl, V.str s47]), (1, Ob.var [V.int i64 n48, V.nilsl, V.nilsl, V.int i64 n49, V.int i64 n50, V.int i64 n51, V.int i64 n52, V.nilsl, V.str s53]), (2, Ob.arr rPitch l54 false), (3, Ob.arr rB l55 false)], nx := 4 }
noncomputable abbrev k27 {Q : Type} (k : V → List Ob → Option Q) := vend (E20 8) 0 (fb Tryd.f27).1.results.toList false k
theorem f27_go (k : Int) (ps : List Pt) (ts : List Bool) (a b c d : Int) (w : List UInt8) (p : Int × Int × Int) (t : Bool) :
 vseg (E20 8) f27cuts 0 J (k27 kk) 100000 true [.code (fb Tryd.f27).2] (start ([V.agg [V.int i64 k, V.sl rPitch ps, V.sl rB ts, V.int i64 a, V.int i64 b, V.int i64 c, V.int i64 d, V.nilsl, V.str w], enc true rPitch p, V.bool t]) ([])) =
 J f27t4 (f27s0 t (0 : Int) k (ps) (ts) a b c d w p (0 : Int) (0 : Int) (0 : Int) (0 : Int) (0 : Int) ([])) := by kernel_rfl
theorem f27_0 (t : Bool) (n1 n2 : Int) (l3 : List Pt) (l4 : List Bool) (n5 n6 n7 n8 : Int) (s9 : List UInt8) (x10 : Int × Int × Int) (n11 n12 n13 n14 n15 : Int) (s16 : List UInt8) :
 vseg (E20 8) f27cuts 0 J (k27 kk) 100000 true f27t4 (f27s0 t n1 n2 l3 l4 n5 n6 n7 n8 s9 x10 n11 n12 n13 n14 n15 s16) =
 (bif decide (n1 < (↑l3.length : Int)) then
 (match idx l3 n1 with
 | some y17 => (bif decide (Pt.cmp y17 x10 < (0 : Int)) then
 (match idx l3 n1 with
 | some y18 => (match idx l4 n1 with
 | some y19 => J f27t4 (f27s1 t (i64.wrap (n1 + (1 : Int))) n2 l3 l4 n5 n6 n7 n8 s9 x10 n11 n12 n13 n14 n15 s16 ([y18]) ([y19]))
 | none => none)
 | none => none)
 else (bif decide (n1 < (↑l3.length : Int)) then
 (match idx l3 n1 with
 | some y38 => (bif decide (y38.fst = x10.fst) && (decide (y38.snd.fst = x10.snd.fst) && decide (y38.snd.snd = x10.snd.snd)) then
 (bif t then
 J f27t13 (f27s2 (i64.wrap (n1 + (1 : Int))) n2 l3 l4 n5 n6 n7 n8 s9 n11 n12 n13 n14 n15 s16 ([x10]) ([true]))
 else (match idx l4 n1 with
 | some y56 => J f27t13 (f27s2 (i64.wrap (n1 + (1 : Int))) n2 l3 l4 n5 n6 n7 n8 s9 n11 n12 n13 n14 n15 s16 ([x10]) ([y56]))
 | none => none))
 else J f27t13 (f27s2 n1 n2 l3 l4 n5 n6 n7 n8 s9 n11 n12 n13 n14 n15 s16 ([x10]) ([t])))
 | none => none)
 else J f27t13 (f27s2 n1 n2 l3 l4 n5 n6 n7 n8 s9 n11 n12 n13 n14 n15 s16 ([x10]) ([t]))))
 | none => none)
 else (bif decide (n1 < (↑l3.length : Int)) then
 (match idx l3 n1 with
 | some y57 => (bif decide (y57.fst = x10.fst) && (decide (y57.snd.fst = x10.snd.fst) && decide (y57.snd.snd = x10.snd.snd)) then
 (bif t then
 J f27t13 (f27s2 (i64.wrap (n1 + (1 : Int))) n2 l3 l4 n5 n6 n7 n8 s9 n11 n12 n13 n14 n15 s16 ([x10]) ([true]))
 else (match idx l4 n1 with
 | some y58 => J f27t13 (f27s2 (i64.wrap (n1 + (1 : Int))) n2 l3 l4 n5 n6 n7 n8 s9 n11 n12 n13 n14 n15 s16 ([x10]) ([y58]))
 | none => none))
 else J f27t13 (f27s2 n1 n2 l3 l4 n5 n6 n7 n8 s9 n11 n12 n13 n14 n15 s16 ([x10]) ([t])))
 | none => none)
 else J f27t13 (f27s2 n1 n2 l3 l4 n5 n6 n7 n8 s9 n11 n12 n13 n14 n15 s16 ([x10]) ([t])))) := by kernel_rfl
theorem f27_1 (t : Bool) (n20 n21 : Int) (l22 : List Pt) (l23 : List Bool) (n24 n25 n26 n27 : Int) (s28 : List UInt8) (x29 : Int × Int × Int) (n30 n31 n32 n33 n34 : Int) (s35 : List UInt8) (l36 : List Pt) (l37 : List Bool) :
 vseg (E20 8) f27cuts 0 J (k27 kk) 100000 true f27t4 (f27s1 t n20 n21 l22 l23 n24 n25 n26 n27 s28 x29 n30 n31 n32 n33 n34 s35 l36 l37) =
 (bif decide (n20 < (↑l22.length : Int)) then
 (match idx l22 n20 with
 | some y59 => (bif decide (Pt.cmp y59 x29 < (0 : Int)) then
 (match idx l22 n20 with
 | some y60 => (bif decide ((l36.length + 1) * 24 ≤ bytesMost) then
 (match idx l23 n20 with
 | some y61 => (bif decide ((l37.length + 1) * 1 ≤ bytesMost) then
 J f27t4 (f27s1 t (i64.wrap (n20 + (1 : Int))) n21 l22 l23 n24 n25 n26 n27 s28 x29 n30 n31 n32 n33 n34 s35 (l36 ++ [y60]) (l37 ++ [y61]))
 else none)
 | none => none)
 else none)
 | none => none)
 else (bif decide (n20 < (↑l22.length : Int)) then
 (match idx l22 n20 with
 | some y62 => (bif decide (y62.fst = x29.fst) && (decide (y62.snd.fst = x29.snd.fst) && decide (y62.snd.snd = x29.snd.snd)) then
 (bif t then
 (bif decide ((l36.length + 1) * 24 ≤ bytesMost) then
 (bif decide ((l37.length + 1) * 1 ≤ bytesMost) then
 J f27t13 (f27s2 (i64.wrap (n20 + (1 : Int))) n21 l22 l23 n24 n25 n26 n27 s28 n30 n31 n32 n33 n34 s35 (l36 ++ [x29]) (l37 ++ [true]))
 else none)
 else none)
 else (match idx l23 n20 with
 | some y63 => (bif decide ((l36.length + 1) * 24 ≤ bytesMost) then
 (bif decide ((l37.length + 1) * 1 ≤ bytesMost) then
 J f27t13 (f27s2 (i64.wrap (n20 + (1 : Int))) n21 l22 l23 n24 n25 n26 n27 s28 n30 n31 n32 n33 n34 s35 (l36 ++ [x29]) (l37 ++ [y63]))
 else none)
 else none)
 | none => none))
 else (bif decide ((l36.length + 1) * 24 ≤ bytesMost) then
 (bif decide ((l37.length + 1) * 1 ≤ bytesMost) then
 J f27t13 (f27s2 n20 n21 l22 l23 n24 n25 n26 n27 s28 n30 n31 n32 n33 n34 s35 (l36 ++ [x29]) (l37 ++ [t]))
 else none)
 else none))
 | none => none)
 else (bif decide ((l36.length + 1) * 24 ≤ bytesMost) then
 (bif decide ((l37.length + 1) * 1 ≤ bytesMost) then
 J f27t13 (f27s2 n20 n21 l22 l23 n24 n25 n26 n27 s28 n30 n31 n32 n33 n34 s35 (l36 ++ [x29]) (l37 ++ [t]))
 else none)
 else none)))
 | none => none)
 else (bif decide (n20 < (↑l22.length : Int)) then
 (match idx l22 n20 with
 | some y64 => (bif decide (y64.fst = x29.fst) && (decide (y64.snd.fst = x29.snd.fst) && decide (y64.snd.snd = x29.snd.snd)) then
 (bif t then
 (bif decide ((l36.length + 1) * 24 ≤ bytesMost) then
 (bif decide ((l37.length + 1) * 1 ≤ bytesMost) then
 J f27t13 (f27s2 (i64.wrap (n20 + (1 : Int))) n21 l22 l23 n24 n25 n26 n27 s28 n30 n31 n32 n33 n34 s35 (l36 ++ [x29]) (l37 ++ [true]))
 else none)
 else none)
 else (match idx l23 n20 with
 | some y65 => (bif decide ((l36.length + 1) * 24 ≤ bytesMost) then
 (bif decide ((l37.length + 1) * 1 ≤ bytesMost) then
 J f27t13 (f27s2 (i64.wrap (n20 + (1 : Int))) n21 l22 l23 n24 n25 n26 n27 s28 n30 n31 n32 n33 n34 s35 (l36 ++ [x29]) (l37 ++ [y65]))
 else none)
 else none)
 | none => none))
 else (bif decide ((l36.length + 1) * 24 ≤ bytesMost) then
 (bif decide ((l37.length + 1) * 1 ≤ bytesMost) then
 J f27t13 (f27s2 n20 n21 l22 l23 n24 n25 n26 n27 s28 n30 n31 n32 n33 n34 s35 (l36 ++ [x29]) (l37 ++ [t]))
 else none)
 else none))
 | none => none)
 else (bif decide ((l36.length + 1) * 24 ≤ bytesMost) then
 (bif decide ((l37.length + 1) * 1 ≤ bytesMost) then
 J f27t13 (f27s2 n20 n21 l22 l23 n24 n25 n26 n27 s28 n30 n31 n32 n33 n34 s35 (l36 ++ [x29]) (l37 ++ [t]))
 else none)
 else none))) := by kernel_rfl
theorem f27_2 (n39 n40 : Int) (l41 : List Pt) (l42 : List Bool) (n43 n44 n45 n46 : Int) (s47 : List UInt8) (n48 n49 n50 n51 n52 : Int) (s53 : List UInt8) (l54 : List Pt) (l55 : List Bool) :
 vseg (E20 8) f27cuts 0 J (k27 kk) 100000 true f27t13 (f27s2 n39 n40 l41 l42 n43 n44 n45 n46 s47 n48 n49 n50 n51 n52 s53 l54 l55) =
 (bif decide (n39 < (↑l41.length : Int)) then
 (match idx l41 n39 with
 | some y66 => (bif decide ((l54.length + 1) * 24 ≤ bytesMost) then
 (match idx l42 n39 with
 | some y67 => (bif decide ((l55.length + 1) * 1 ≤ bytesMost) then
 J f27t13 (f27s2 (i64.wrap (n39 + (1 : Int))) n40 l41 l42 n43 n44 n45 n46 s47 n48 n49 n50 n51 n52 s53 (l54 ++ [y66]) (l55 ++ [y67]))
 else none)
 | none => none)
 else none)
 | none => none)
 else kk (V.agg [V.int i64 n40, V.sl rPitch l54, V.sl rB l55, V.int i64 n43, V.int i64 n44, V.int i64 n45, V.int i64 n46, V.nilsl, V.str s47]) ([])) := by kernel_rfl
end Vm.S6b
open Go Go.Proofs
namespace Vm.S6b
abbrev srE : Ks := .cons (.sl rEvent) .nil
theorem f45_loop {R : Type} (kk : V → List Ob → Option R) (l : List Ev) (hb : l.length < 4611686018427387904) (ho : ∀ e ∈ l, Ev.okm e = true) : ∀ (d i : Nat), i + d = l.length →
  vrun (E20 8) f45cuts 0 100000 (k45 kk) (d + 1) f45t2 (f45s0 l i) = kk (.int .i64 (firstBad (l.drop i) i)) [] := by
 intro d
 induction d with
 | zero =>
   intro i hi
   rw [vrun_succ, f45_0, bif_neg (by exact decide_eq_false (by omega)), List.drop_eq_nil_of_le (by omega)]; rfl
 | succ d ih =>
   intro i hi
   have hlt : i < l.length := by omega
   rw [vrun_succ, f45_0, bif_pos (by exact decide_eq_true (by omega)), idx_nat, List.getElem?_eq_getElem hlt, wrap_succ (by omega), ih (i + 1) (by omega), List.drop_eq_getElem_cons hlt]
   dsimp only [firstBad]
   rw [ho _ (List.getElem_mem hlt), cond_true]
   cases h : Ev.right l[i] with
   | true => rw [if_pos rfl]; rfl
   | false => rw [if_neg (by decide)]; rfl
theorem f45_run {R : Type} (kk : V → List Ob → Option R) (l : List Ev) (hb : l.length < 4611686018427387904) (ho : ∀ e ∈ l, Ev.okm e = true) :
  ∃ n, vrun (E20 8) f45cuts 0 100000 (k45 kk) n [.code (fb Tryd.f45).2] (start [enc false srE l, .fn 21 [] []] []) = kk (.int .i64 (firstBad l 0)) [] := by
 refine ⟨l.length + 1 + 1, ?_⟩
 rw [vrun_succ]
 refine (f45_go _ kk l).trans ?_
 exact f45_loop kk l hb ho l.length 0 (by omega)
theorem f28_loop {R : Type} (kk : V → List Ob → Option R) (l : List Int) (n : Int) (hb : l.length < 4611686018427387904) : ∀ (d i : Nat), i + d = l.length →
  vrun (E20 8) f28cuts 0 100000 (k28 kk) (d + 1) f28t2 (f28s0 l n i) = kk (.bool ((l.drop i).any fun m => decide (m = n))) [] := by
 intro d
 induction d with
 | zero =>
   intro i hi
   rw [vrun_succ, f28_0, bif_neg (by exact decide_eq_false (by omega)), List.drop_eq_nil_of_le (by omega)]; rfl
 | succ d ih =>
   intro i hi
   have hlt : i < l.length := by omega
   rw [vrun_succ, f28_0, bif_pos (by exact decide_eq_true (by omega)), idx_nat, List.getElem?_eq_getElem hlt, wrap_succ (by omega), ih (i + 1) (by omega), List.drop_eq_getElem_cons hlt, List.any_cons]
   dsimp only
   cases h : decide (l[i] = n) with
   | true => rfl
   | false => rfl
theorem f28_run {R : Type} (kk : V → List Ob → Option R) (l : List Int) (n : Int) (hb : l.length < 4611686018427387904) :
  ∃ N, vrun (E20 8) f28cuts 0 100000 (k28 kk) N [.code (fb Tryd.f28).2] (start [enc false srI' l, enc false rI n] []) = kk (.bool (l.any fun m => decide (m = n))) [] := by
 refine ⟨l.length + 1 + 1, ?_⟩
 rw [vrun_succ]
 refine (f28_go _ kk l n).trans ?_
 exact f28_loop kk l n hb l.length 0 (by omega)
theorem f9_loop {R : Type} (kk : V → List Ob → Option R) (l : List Ev) : ∀ (d i : Nat), i + d = 7 →
  ∃ N, vrun (E20 8) f9cuts 0 100000 (k9 kk) N f9t2 (f9s0 l i) = kk (.bool (((l.drop i).take d).all Ev.fewB && decide (l.length ≤ 6))) [] := by
 intro d
 induction d with
 | zero =>
   intro i hi
   refine ⟨1, ?_⟩
   have e : decide ((l.length : Int) ≤ 6) = decide (l.length ≤ 6) := decide_eq_decide.2 ⟨fun h => by omega, fun h => by omega⟩
   rw [vrun_succ, f9_0, e]
   by_cases h : (i : Int) < (l.length : Int)
   ·rw [bif_pos (decide_eq_true h), bif_neg (by exact decide_eq_false (by omega))]; rfl
   ·rw [bif_neg (decide_eq_false h)]; rfl
 | succ d ih =>
   intro i hi
   have e : decide ((l.length : Int) ≤ 6) = decide (l.length ≤ 6) := decide_eq_decide.2 ⟨fun h => by omega, fun h => by omega⟩
   by_cases hlt : i < l.length
   ·obtain ⟨N, hN⟩ := ih (i + 1) (by omega)
    refine ⟨N + 1, ?_⟩
    rw [vrun_succ, f9_0, bif_pos (by exact decide_eq_true (by omega)), bif_pos (by exact decide_eq_true (by omega)), idx_nat, List.getElem?_eq_getElem hlt, wrap_succ (by omega), hN, List.drop_eq_getElem_cons hlt, List.take_succ_cons, List.all_cons]
    dsimp only
    unfold Ev.fewB
    have c1 : ∀ n : Nat, decide ((n : Int) ≤ 20) = decide (n ≤ 20) := fun n => decide_eq_decide.2 ⟨fun h => by omega, fun h => by omega⟩
    have c2 : ∀ n : Nat, decide ((n : Int) ≤ 100) = decide (n ≤ 100) := fun n => decide_eq_decide.2 ⟨fun h => by omega, fun h => by omega⟩
    simp only [c1, c2]
    cases decide (l[i].2.1.length ≤ 20) <;> cases decide (l[i].2.2.1.length ≤ 20) <;> cases decide (l[i].2.2.2.2.2.2.2.1.length ≤ 20) <;> cases decide (l[i].2.2.2.2.2.2.2.2.length ≤ 100) <;> simp
   ·refine ⟨1, ?_⟩
    rw [vrun_succ, f9_0, e, bif_neg (by exact decide_eq_false (by omega)), List.drop_eq_nil_of_le (by omega)]
    rfl
theorem f9_run {R : Type} (kk : V → List Ob → Option R) (l : List Ev) :
  ∃ n, vrun (E20 8) f9cuts 0 100000 (k9 kk) n [.code (fb Tryd.f9).2] (start [enc false srE l] []) = kk (.bool (fewS l)) [] := by
 obtain ⟨N, hN⟩ := f9_loop kk l 7 0 rfl
 refine ⟨N + 1, ?_⟩
 rw [vrun_succ]
 refine (f9_go _ kk l).trans ?_
 exact hN
abbrev putV (k a b c e : Int) (w : List UInt8) (r : List Pt × List Bool) : V := .agg [.int .i64 k, .sl rPitch r.1, .sl rB r.2, .int .i64 a, .int .i64 b, .int .i64 c, .int .i64 e, .nilsl, .str w]
theorem f27_tail {R : Type} (kk : V → List Ob → Option R) (k : Int) (ps : List Pt) (ts : List Bool) (a b c e : Int) (w : List UInt8) (hl : ts.length = ps.length) (hb : ps.length ≤ 1000) : ∀ (d i : Nat) (l₁ : List Pt) (l₂ : List Bool), i + d = ps.length → l₁.length ≤ i + 1 → l₂.length ≤ i + 1 →
  ∃ N, vrun (E20 8) f27cuts 0 100000 (k27 kk) N f27t13 (f27s2 i k ps ts a b c e w 0 0 0 0 0 [] l₁ l₂) = kk (putV k a b c e w (l₁ ++ ps.drop i, l₂ ++ ts.drop i)) [] := by
 intro d
 induction d with
 | zero =>
   intro i l₁ l₂ hi h1 h2
   refine ⟨1, ?_⟩
   rw [vrun_succ, f27_2, bif_neg (by exact decide_eq_false (by omega)), List.drop_eq_nil_of_le (by omega), List.drop_eq_nil_of_le (by omega), List.append_nil, List.append_nil]
 | succ d ih =>
   intro i l₁ l₂ hi h1 h2
   have hlt : i < ps.length := by omega
   have hlt2 : i < ts.length := by omega
   obtain ⟨N, hN⟩ := ih (i + 1) (l₁ ++ [ps[i]]) (l₂ ++ [ts[i]]) (by omega) (by simp; omega) (by simp; omega)
   refine ⟨N + 1, ?_⟩
   rw [vrun_succ, f27_2, bif_pos (by exact decide_eq_true (by omega)), idx_nat, idx_nat, List.getElem?_eq_getElem hlt, List.getElem?_eq_getElem hlt2, wrap_succ (by omega)]
   dsimp only
   rw [bif_pos (by exact decide_eq_true (by simp [bytesMost]; omega)), bif_pos (by exact decide_eq_true (by simp [bytesMost]; omega))]
   rw [List.drop_eq_getElem_cons hlt, List.drop_eq_getElem_cons hlt2]
   simpa only [List.append_assoc, List.cons_append, List.nil_append] using hN
theorem cond3 (a b : Pt) : (decide (a.1 = b.1) && (decide (a.2.1 = b.2.1) && decide (a.2.2 = b.2.2))) = decide (a = b) := by
 obtain ⟨a1, a2, a3⟩ := a
 obtain ⟨b1, b2, b3⟩ := b
 simp only [Prod.mk.injEq, ← Bool.decide_and]
theorem f27_loop {R : Type} (kk : V → List Ob → Option R) (k : Int) (ps : List Pt) (ts : List Bool) (a b c e : Int) (w : List UInt8) (p : Pt) (t : Bool) (hl : ts.length = ps.length) (hb : ps.length ≤ 1000) : ∀ (d i : Nat) (l₁ : List Pt) (l₂ : List Bool), i + d = ps.length → l₁.length ≤ i → l₂.length ≤ i →
  ∃ N, vrun (E20 8) f27cuts 0 100000 (k27 kk) N f27t4 (f27s1 t i k ps ts a b c e w p 0 0 0 0 0 [] l₁ l₂) = kk (putV k a b c e w (l₁ ++ (putP p t (ps.drop i) (ts.drop i)).1, l₂ ++ (putP p t (ps.drop i) (ts.drop i)).2)) [] := by
 intro d
 induction d with
 | zero =>
   intro i l₁ l₂ hi h1 h2
   obtain ⟨N, hN⟩ := f27_tail kk k ps ts a b c e w hl hb 0 i (l₁ ++ [p]) (l₂ ++ [t]) (by omega) (by simp; omega) (by simp; omega)
   refine ⟨N + 1, ?_⟩
   have b1 : decide ((l₁.length + 1) * 24 ≤ bytesMost) = true := decide_eq_true (by simp [bytesMost]; omega)
   have b2 : decide ((l₂.length + 1) * 1 ≤ bytesMost) = true := decide_eq_true (by simp [bytesMost]; omega)
   rw [vrun_succ, f27_1, bif_neg (by exact decide_eq_false (by omega)), bif_neg (by exact decide_eq_false (by omega)), b1, b2, cond_true, cond_true, hN, List.drop_eq_nil_of_le (by omega), List.drop_eq_nil_of_le (by omega), List.append_nil, List.append_nil]
   rfl
 | succ d ih =>
   intro i l₁ l₂ hi h1 h2
   have hlt : i < ps.length := by omega
   have hlt2 : i < ts.length := by omega
   have b1 : decide ((l₁.length + 1) * 24 ≤ bytesMost) = true := decide_eq_true (by simp [bytesMost]; omega)
   have b2 : decide ((l₂.length + 1) * 1 ≤ bytesMost) = true := decide_eq_true (by simp [bytesMost]; omega)
   rw [List.drop_eq_getElem_cons hlt, List.drop_eq_getElem_cons hlt2]
   simp only [putP]
   have red : ∀ N, vrun (E20 8) f27cuts 0 100000 (k27 kk) (N + 1) f27t4 (f27s1 t i k ps ts a b c e w p 0 0 0 0 0 [] l₁ l₂) =
     (bif decide (Pt.cmp ps[i] p < 0) then vrun (E20 8) f27cuts 0 100000 (k27 kk) N f27t4 (f27s1 t ((i + 1 : Nat) : Int) k ps ts a b c e w p 0 0 0 0 0 [] (l₁ ++ [ps[i]]) (l₂ ++ [ts[i]]))
     else (bif decide (ps[i] = p) then vrun (E20 8) f27cuts 0 100000 (k27 kk) N f27t13 (f27s2 ((i + 1 : Nat) : Int) k ps ts a b c e w 0 0 0 0 0 [] (l₁ ++ [p]) (l₂ ++ [t || ts[i]]))
     else vrun (E20 8) f27cuts 0 100000 (k27 kk) N f27t13 (f27s2 i k ps ts a b c e w 0 0 0 0 0 [] (l₁ ++ [p]) (l₂ ++ [t])))) := fun N => by
    have hi2 : decide ((i : Int) < (ps.length : Int)) = true := decide_eq_true (by omega)
    rw [vrun_succ, f27_1, hi2, cond_true, cond_true, idx_nat, idx_nat, List.getElem?_eq_getElem hlt, List.getElem?_eq_getElem hlt2, wrap_succ (by omega)]
    dsimp only
    rw [b1, b2, cond3]
    cases t <;> rfl
   by_cases hc : Pt.cmp ps[i] p < 0
   ·rw [if_pos hc]
    obtain ⟨N, hN⟩ := ih (i + 1) (l₁ ++ [ps[i]]) (l₂ ++ [ts[i]]) (by omega) (by simp; omega) (by simp; omega)
    refine ⟨N + 1, ?_⟩
    rw [red, bif_pos (decide_eq_true hc), hN]
    simp only [List.append_assoc, List.cons_append, List.nil_append]
   ·rw [if_neg hc]
    by_cases he : ps[i] = p
    ·rw [if_pos he]
     obtain ⟨N, hN⟩ := f27_tail kk k ps ts a b c e w hl hb d (i + 1) (l₁ ++ [p]) (l₂ ++ [t || ts[i]]) (by omega) (by simp; omega) (by simp; omega)
     refine ⟨N + 1, ?_⟩
     rw [red, bif_neg (decide_eq_false hc), bif_pos (decide_eq_true he), hN]
     simp only [List.append_assoc, List.cons_append, List.nil_append]
    ·rw [if_neg he]
     obtain ⟨N, hN⟩ := f27_tail kk k ps ts a b c e w hl hb (d + 1) i (l₁ ++ [p]) (l₂ ++ [t]) (by omega) (by simp; omega) (by simp; omega)
     refine ⟨N + 1, ?_⟩
     rw [red, bif_neg (decide_eq_false hc), bif_neg (decide_eq_false he), hN, List.drop_eq_getElem_cons hlt, List.drop_eq_getElem_cons hlt2]
     simp only [List.append_assoc, List.cons_append, List.nil_append]
def okPut (ps : List Pt) (ts : List Bool) : Bool := decide (ts.length = ps.length) && decide (ps.length ≤ 1000)
theorem f27_run {R : Type} (kk : V → List Ob → Option R) (k : Int) (ps : List Pt) (ts : List Bool) (a b c e : Int) (w : List UInt8) (p : Pt) (t : Bool) (h : okPut ps ts = true) :
  ∃ N, vrun (E20 8) f27cuts 0 100000 (k27 kk) N [.code (fb Tryd.f27).2] (start [putV k a b c e w (ps, ts), enc true rPitch p, enc false rB t] []) = kk (putV k a b c e w (putP p t ps ts)) [] := by
 simp only [okPut, Bool.and_eq_true, decide_eq_true_eq] at h
 obtain ⟨hl, hb⟩ := h
 have main : ∃ N, vrun (E20 8) f27cuts 0 100000 (k27 kk) N f27t4 (f27s0 t 0 k ps ts a b c e w p 0 0 0 0 0 []) = kk (putV k a b c e w (putP p t ps ts)) [] := by
  by_cases h0 : 0 < ps.length
  ·have h1 : 0 < ts.length := by omega
   have e1 : ps = ps[0] :: ps.drop 1 := by
    have := List.drop_eq_getElem_cons h0
    rwa [List.drop_zero] at this
   have e2 : ts = ts[0] :: ts.drop 1 := by
    have := List.drop_eq_getElem_cons h1
    rwa [List.drop_zero] at this
   have ep : putP p t ps ts = putP p t (ps[0] :: ps.drop 1) (ts[0] :: ts.drop 1) := by rw [← e1, ← e2]
   rw [ep]
   simp only [putP]
   have red : ∀ N, vrun (E20 8) f27cuts 0 100000 (k27 kk) (N + 1) f27t4 (f27s0 t 0 k ps ts a b c e w p 0 0 0 0 0 []) =
     (bif decide (Pt.cmp ps[0] p < 0) then vrun (E20 8) f27cuts 0 100000 (k27 kk) N f27t4 (f27s1 t ((0 + 1 : Nat) : Int) k ps ts a b c e w p 0 0 0 0 0 [] [ps[0]] [ts[0]])
     else (bif decide (ps[0] = p) then vrun (E20 8) f27cuts 0 100000 (k27 kk) N f27t13 (f27s2 ((0 + 1 : Nat) : Int) k ps ts a b c e w 0 0 0 0 0 [] [p] [t || ts[0]])
     else vrun (E20 8) f27cuts 0 100000 (k27 kk) N f27t13 (f27s2 ((0 : Nat) : Int) k ps ts a b c e w 0 0 0 0 0 [] [p] [t]))) := fun N => by
    have hi2 : decide ((0 : Int) < (ps.length : Int)) = true := decide_eq_true (by omega)
    rw [vrun_succ, f27_0, hi2, cond_true, cond_true, idx_get ps (0 : Int) 0 rfl, idx_get ts (0 : Int) 0 rfl, List.getElem?_eq_getElem h0, List.getElem?_eq_getElem h1, w64 (n := 0 + 1) (by decide) (by decide)]
    dsimp only
    rw [cond3]
    cases t <;> rfl
   by_cases hc : Pt.cmp ps[0] p < 0
   ·rw [if_pos hc]
    obtain ⟨N, hN⟩ := f27_loop kk k ps ts a b c e w p t hl hb (ps.length - 1) 1 [ps[0]] [ts[0]] (by omega) (by simp) (by simp)
    refine ⟨N + 1, ?_⟩
    rw [red, bif_pos (decide_eq_true hc), hN]
    rfl
   ·rw [if_neg hc]
    by_cases he : ps[0] = p
    ·rw [if_pos he]
     obtain ⟨N, hN⟩ := f27_tail kk k ps ts a b c e w hl hb (ps.length - 1) 1 [p] [t || ts[0]] (by omega) (by simp) (by simp)
     refine ⟨N + 1, ?_⟩
     rw [red, bif_neg (decide_eq_false hc), bif_pos (decide_eq_true he), hN]
     rfl
    ·rw [if_neg he]
     obtain ⟨N, hN⟩ := f27_tail kk k ps ts a b c e w hl hb ps.length 0 [p] [t] (by omega) (by simp) (by simp)
     refine ⟨N + 1, ?_⟩
     rw [red, bif_neg (decide_eq_false hc), bif_neg (decide_eq_false he), hN, List.drop_zero, List.drop_zero]
     rw [← e1, ← e2]
     rfl
  ·have e1 : ps = [] := List.length_eq_zero_iff.1 (by omega)
   have e2 : ts = [] := List.length_eq_zero_iff.1 (by omega)
   obtain ⟨N, hN⟩ := f27_tail kk k ps ts a b c e w hl hb 0 0 [p] [t] (by omega) (by simp) (by simp)
   refine ⟨N + 1, ?_⟩
   rw [vrun_succ, f27_0, bif_neg (by exact decide_eq_false (by omega)), bif_neg (by exact decide_eq_false (by omega))]
   refine hN.trans ?_
   rw [e1, e2]
   rfl
 obtain ⟨N, hN⟩ := main
 refine ⟨N + 1, ?_⟩
 rw [vrun_succ]
 refine (f27_go _ kk k ps ts a b c e w p t).trans ?_
 exact hN
def oksE (l : List Ev) : Bool := l.all Ev.okm && decide (l.length < 4611686018427387904)
theorem oksE_of {l : List Ev} (h : oksE l = true) : l.length < 4611686018427387904 ∧ ∀ e ∈ l, Ev.okm e = true := by
 simp only [oksE, Bool.and_eq_true, decide_eq_true_eq, List.all_eq_true] at h
 exact ⟨h.2, h.1⟩
noncomputable def f45e : Entry Tryd.prog gls := .oneF 45 false srE (by intro h; cases h <;> rfl) 21 (fun (l : List Ev) => (oksE l, .int .i64 (firstBad l 0))) fun x h => by
 obtain ⟨n, hn⟩ := f45_run (fun v os => some (v, os)) x (oksE_of h).1 (oksE_of h).2
 exact contract_run (fn := (fb Tryd.f45).1) (c := (fb Tryd.f45).2) mixed (ready20 8) (glE20 8) Tryd.func45 (by kernel_rfl) rfl rfl (by kernel_rfl) hn
noncomputable def f28e : Entry Tryd.prog gls := .two 28 false srI' false rI (by intro h; cases h <;> rfl) (by intro h; cases h <;> rfl) (fun (l : List Int) (n : Int) => (decide (l.length < 4611686018427387904), .bool (l.any fun m => decide (m = n)))) fun x y h => by
 obtain ⟨n, hn⟩ := f28_run (fun v os => some (v, os)) x y (of_decide_eq_true h)
 exact contract_run (fn := (fb Tryd.f28).1) (c := (fb Tryd.f28).2) mixed (ready20 8) (glE20 8) Tryd.func28 (by kernel_rfl) rfl rfl (by kernel_rfl) hn
noncomputable def f9e : Entry Tryd.prog gls := .one 9 false srE (by intro h; cases h <;> rfl) (fun (l : List Ev) => (true, .bool (fewS l))) fun x h => by
 obtain ⟨n, hn⟩ := f9_run (fun v os => some (v, os)) x
 exact contract_run (fn := (fb Tryd.f9).1) (c := (fb Tryd.f9).2) mixed (ready20 8) (glE20 8) Tryd.func9 (by kernel_rfl) rfl rfl (by kernel_rfl) hn
inductive SubL : List V → List V → Prop
 | nil : SubL [] []
 | cons {v v' : V} {l l' : List V} (h : ∀ (w : World) (A : ASet) (η : Nat → Option Nat) (h : Nat → Option Ob) (c : Value), V.Rep w A η h v c → V.Rep w A η h v' c) (t : SubL l l') : SubL (v :: l) (v' :: l')
theorem SubL.rep {w : World} {A : ASet} {η : Nat → Option Nat} {h : Nat → Option Ob} : ∀ {l l' : List V} {cs : List Value}, SubL l l' → V.RepL w A η h l cs → V.RepL w A η h l' cs
 | _, _, _, .nil, hr => hr
 | _, _, _, .cons hv t, hr => by
   simp only [V.RepL] at hr ⊢
   obtain ⟨c, cs, rfl, h1, h2⟩ := hr
   exact ⟨c, cs, rfl, hv _ _ _ _ _ h1, t.rep h2⟩
theorem sub_rd {a : Bool} {r : Ks} {v : V} {x : r.Ty} (hx : rd a r v = some x) (h1 : a = false → r.len = 1) : ∀ (w : World) (A : ASet) (η : Nat → Option Nat) (h : Nat → Option Ob) (c : Value), V.Rep w A η h v c → V.Rep w A η h (enc a r x) c := fun _ _ _ _ _ hr => rd_rep hx h1 hr
abbrev srPt : Ks := .cons (.sl rPitch) .nil
abbrev srBo : Ks := .cons (.sl rB) .nil
noncomputable def f27e : Entry Tryd.prog gls where
 f := 27
 g := fun args os => match args, os with
   | [.agg [k, p, t, a, b, c, e, .nilsl, w], q, u], [] => match rd false rI k, rd false srPt p, rd false srBo t, rd false rI a, rd false rI b, rd false rI c, rd false rI e, rd false rS w, rd true rPitch q, rd false rB u with
     | some k, some p, some t, some a, some b, some c, some e, some w, some q, some u => some (okPut p t, putV k a b c e w (putP q u p t), [])
     | _, _, _, _, _, _, _, _, _, _ => none
   | _, _ => none
 says := fun args os c v os' h hc => by
  subst hc
  split at h
  ·split at h
   ·rename_i h1 h2 h3 h4 h5 h6 h7 h8 h9 h10
    simp only [Option.some.injEq, Prod.mk.injEq] at h
    obtain ⟨h, rfl, rfl⟩ := h
    obtain ⟨n, hn⟩ := f27_run (fun v os => some (v, os)) _ _ _ _ _ _ _ _ _ _ h
    have := contract_run (fn := (fb Tryd.f27).1) (c := (fb Tryd.f27).2) mixed (ready20 8) (glE20 8) Tryd.func27 (by kernel_rfl) rfl rfl (by kernel_rfl) hn
    refine this.args (fun w A η cs hr => ?_) rfl ?_
    ·refine SubL.rep (.cons (fun w A η hh c hr => ?_) (.cons (sub_rd h9 (by intro h; cases h)) (.cons (sub_rd h10 (by intro h; rfl)) .nil))) hr
     simp only [V.Rep] at hr ⊢
     obtain ⟨cs, e, hl⟩ := hr
     refine ⟨cs, e, SubL.rep (.cons (sub_rd h1 (by intro h; rfl)) (.cons (sub_rd h2 (by intro h; rfl)) (.cons (sub_rd h3 (by intro h; rfl)) (.cons (sub_rd h4 (by intro h; rfl)) (.cons (sub_rd h5 (by intro h; rfl)) (.cons (sub_rd h6 (by intro h; rfl)) (.cons (sub_rd h7 (by intro h; rfl)) (.cons (fun _ _ _ _ _ h => h) (.cons (sub_rd h8 (by intro h; rfl)) .nil))))))))) hl⟩
    ·simp only [rootsN, V.rootsL, V.roots, (rd_ids h1).2, (rd_ids h2).2, (rd_ids h3).2, (rd_ids h4).2, (rd_ids h5).2, (rd_ids h6).2, (rd_ids h7).2, (rd_ids h8).2, (rd_ids h9).2, (rd_ids h10).2]
     rfl
   ·cases h
  ·cases h
theorem f24_nil {R : Type} (kk : V → List Ob → Option R) : vrun (E2 14) (fun _ => none) 0 100000 (vend (E2 14) 0 (fb Tryd.f24).1.results.toList false kk) 1 [.code (fb Tryd.f24).2] (start [.nilsl, .fn 25 [] []] []) = kk (.tuple []) [] := by kernel_rfl
def nil24 : List V → Bool
 | [.nilsl, .fn f [] []] => Nat.beq f 25
 | _ => false
theorem nil24_eq {l : List V} (h : nil24 l = true) : l = [.nilsl, .fn 25 [] []] := by
 unfold nil24 at h
 split at h
 ·rw [Nat.eq_of_beq_eq_true h]
 ·cases h
def _root_.Vm.Entry.also {P : Program} {gl : Gl} (e : Entry P gl) (p : List V → Bool) (v : V) (says : ∀ args, p args = true → Contract P gl e.f args [] v []) : Entry P gl where
 f := e.f
 g := fun args os => match e.g args os with
   | some r => some r
   | none => match os with
     | [] => bif p args then some (true, v, []) else none
     | _ => none
 says := fun args os c v' os' h hc => by
  split at h
  ·rename_i r hr
   cases h
   exact e.says args os c v' os' hr hc
  ·split at h
   ·cases hp : p args with
    | false => rw [hp, cond_false] at h; cases h
    | true =>
      rw [hp, cond_true] at h
      simp only [Option.some.injEq, Prod.mk.injEq] at h
      obtain ⟨_, rfl, rfl⟩ := h
      exact says args hp
   ·cases h
noncomputable def f24n : Entry Tryd.prog gls := Entry.also f24e nil24 (.tuple []) fun args h => by
 rw [nil24_eq h]
 exact contract_run (fn := (fb Tryd.f24).1) (c := (fb Tryd.f24).2) mixed (ready2 14) (glE2 14) Tryd.func24 (by kernel_rfl) rfl rfl (by kernel_rfl) (f24_nil (fun v os => some (v, os)))
noncomputable def es21 : List (Entry Tryd.prog gls) := [f45e, f28e, f9e, f27e, f24n] ++ es20
noncomputable def E21 (n : Nat) : Env := interp fns (look tys) gls mvs (tabOf es21) 100000 n
theorem ready21 (n : Nat) : Ready Tryd.prog (E21 n) := ready_of mixed fnsAll tysOk rfsOk n
theorem glE21 (n : Nat) : (E21 n).gl = gls := by cases n <;> rfl
end Vm.S6b
