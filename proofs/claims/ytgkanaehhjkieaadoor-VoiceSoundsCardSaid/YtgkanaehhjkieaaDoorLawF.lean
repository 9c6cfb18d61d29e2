/- What sounds: the loop over a function, its rounds, as runs of the value machine. -/
import Derived.Test.YtgkanaehhjkieaaDoorLawE
import Derived.Test.YtgkanaehhjkieaaDoorVmE
import Derived.KernelRfl
import Derived.Test.YtgkanaehhjkieaaDoorWords
set_option maxRecDepth 100000
open Go Go.Proofs
namespace Vm.S07
noncomputable abbrev f12acuts : Cuts := look [(9, [1, 2, 3, 4, 6, 7, 8, 9]), (1000006, [12006, 1, 2, 3, 4, 6])]
noncomputable abbrev f12at9 : List Item := itemsAtR (rfOf (fb Tryd.f12) 6) 9
def f12as0 (k : Int) (n1 : Int) (l2 : List (Int × List (Int × Int × Int) × List Bool × Int × Int × Int × Int × List Int × List UInt8)) (n3 : Int) (l4 : List (Int × Int)) (x5 : Int × Int × Int) : St := { fr := [(1, V.ref 1 0 0 0), (2, V.ref 2 0 0 0), (3, V.ref 3 0 0 0), (4, V.ref 4 0 0 0), (6, V.ref 5 0 0 0), (7, V.int IntKind.i64 k), (8, V.ref 6 0 0 0), (9, V.int IntKind.i64 n1)], hp := [(0, Ob.loop 12006 [(1, V.ref 1 0 0 0), (2, V.ref 2 0 0 0), (3, V.ref 3 0 0 0), (4, V.ref 4 0 0 0), (6, V.ref 5 0 0 0)] 1), (1, Ob.var [V.sl rEvent l2]), (2, Ob.var [V.nilsl]), (3, Ob.var [V.int IntKind.i64 n3]), (4, Ob.var [V.sl rIv l4]), (5, Ob.var [V.nilsl]), (6, Ob.var [V.int IntKind.i64 x5.fst, V.int IntKind.i64 x5.snd.fst, V.int IntKind.i64 x5.snd.snd])], nx := 7 }
theorem f12a_go {R : Type} (J : List Item → St → Option R) (kk : V → List Ob → Option R) (l : List (Int × List (Int × Int × Int) × List Bool × Int × Int × Int × Int × List Int × List UInt8)) (ss : List (Int × Int)) (n : Int) (k : Int) (p : Int × Int × Int) :
  vseg ((E21 8)) f12acuts 1 J (vendR 1 kk) 100000 true (roundTodo (rfOf (fb Tryd.f12) 6)) (startR (rfOf (fb Tryd.f12) 6) ([V.yld (0 : Nat), V.int IntKind.i64 k, enc true rPitch p]).tail ([Ob.loop (12006 : Nat) [((1 : Nat), V.ref (1 : Nat) (0 : Nat) (0 : Nat) (0 : Nat)), ((2 : Nat), V.ref (2 : Nat) (0 : Nat) (0 : Nat) (0 : Nat)), ((3 : Nat), V.ref (3 : Nat) (0 : Nat) (0 : Nat) (0 : Nat)), ((4 : Nat), V.ref (4 : Nat) (0 : Nat) (0 : Nat) (0 : Nat)), ((6 : Nat), V.ref (5 : Nat) (0 : Nat) (0 : Nat) (0 : Nat))] (0 : Nat), Ob.var [V.sl rEvent l], Ob.var [V.nilsl], Ob.var [V.int IntKind.i64 n], Ob.var [V.sl rIv ss], Ob.var [V.nilsl]])) =
  J f12at9 (f12as0 (k) (k) (l) (n) (ss) (p)) := by kernel_rfl
theorem f12a_0 {R : Type} (J : List Item → St → Option R) (kk : V → List Ob → Option R) (k : Int) (n1 : Int) (l2 : List (Int × List (Int × Int × Int) × List Bool × Int × Int × Int × Int × List Int × List UInt8)) (n3 : Int) (l4 : List (Int × Int)) (x5 : Int × Int × Int) :
  vseg ((E21 8)) f12acuts 1 J (vendR 1 kk) 100000 true f12at9 (f12as0 k n1 l2 n3 l4 x5) =
  (bif decide (IntKind.i64.wrap (n1 + (1 : Int)) < (↑l2.length : Int)) then
    (match idx l2 n1 with
      | some y6 => (bif decide ((Ev.pitches y6).length < (4611686018427387904 : Nat)) then
        (bif (findKey rPitch.beq x5 (Ev.tm y6)).getD false then
          J f12at9 (f12as0 (k) (IntKind.i64.wrap (n1 + (1 : Int))) (l2) (n3) (l4) (x5))
        else (match idx l4 (IntKind.i64.wrap (n1 + (1 : Int))) with
            | some y7 => (match idx l4 k with
              | some y8 => (bif Rt.i64 y7 && Rt.i64 y8 then
                (bif !decide ((Rt.sub y7 y8).snd = (0 : Int)) then
                  kk (V.bool false) ([Ob.loop 12006 [(1, V.ref 1 0 0 0), (2, V.ref 2 0 0 0), (3, V.ref 3 0 0 0), (4, V.ref 4 0 0 0), (6, V.ref 5 0 0 0)] 3, Ob.var [V.sl rEvent l2], Ob.var [V.nilsl], Ob.var [V.int IntKind.i64 (Rt.sub y7 y8).snd], Ob.var [V.sl rIv l4], Ob.var [V.nilsl]])
                else (match idx l4 k with
                    | some y9 => (match idx l2 k with
                      | some y10 => (bif decide (List.length y10.snd.snd.snd.snd.snd.snd.snd.fst * (8 : Nat) ≤ bytesMost) then
                        kk (V.bool true) ([Ob.loop 12006 [(1, V.ref 1 0 0 0), (2, V.ref 2 0 0 0), (3, V.ref 3 0 0 0), (4, V.ref 4 0 0 0), (6, V.ref 5 0 0 0)] 0, Ob.var [V.sl rEvent l2], Ob.var [V.nilsl], Ob.var [V.int IntKind.i64 n3], Ob.var [V.sl rIv l4], Ob.var [V.own 6], Ob.arr (Ks.cons (K.int IntKind.i64) (Ks.cons (K.int IntKind.i64) (Ks.cons (K.int IntKind.i64) (Ks.cons (K.int IntKind.i64) (Ks.cons (K.int IntKind.i64) (Ks.cons (K.int IntKind.i64) (Ks.cons (K.int IntKind.i64) (Ks.cons (K.sl (Ks.cons (K.int IntKind.i64) Ks.nil)) Ks.nil)))))))) [(x5.fst, x5.snd.fst, x5.snd.snd, y9.fst, y9.snd, (Rt.sub y7 y8).fst.fst, (Rt.sub y7 y8).fst.snd, y10.snd.snd.snd.snd.snd.snd.snd.fst)] false])
                      else none)
                      | none => none)
                    | none => none))
              else none)
              | none => none)
            | none => none))
      else none)
      | none => none)
  else (match idx l4 (IntKind.i64.wrap (n1 + (1 : Int))) with
      | some y11 => (match idx l4 k with
        | some y12 => (bif Rt.i64 y11 && Rt.i64 y12 then
          (bif !decide ((Rt.sub y11 y12).snd = (0 : Int)) then
            kk (V.bool false) ([Ob.loop 12006 [(1, V.ref 1 0 0 0), (2, V.ref 2 0 0 0), (3, V.ref 3 0 0 0), (4, V.ref 4 0 0 0), (6, V.ref 5 0 0 0)] 3, Ob.var [V.sl rEvent l2], Ob.var [V.nilsl], Ob.var [V.int IntKind.i64 (Rt.sub y11 y12).snd], Ob.var [V.sl rIv l4], Ob.var [V.nilsl]])
          else (match idx l4 k with
              | some y13 => (match idx l2 k with
                | some y14 => (bif decide (List.length y14.snd.snd.snd.snd.snd.snd.snd.fst * (8 : Nat) ≤ bytesMost) then
                  kk (V.bool true) ([Ob.loop 12006 [(1, V.ref 1 0 0 0), (2, V.ref 2 0 0 0), (3, V.ref 3 0 0 0), (4, V.ref 4 0 0 0), (6, V.ref 5 0 0 0)] 0, Ob.var [V.sl rEvent l2], Ob.var [V.nilsl], Ob.var [V.int IntKind.i64 n3], Ob.var [V.sl rIv l4], Ob.var [V.own 6], Ob.arr (Ks.cons (K.int IntKind.i64) (Ks.cons (K.int IntKind.i64) (Ks.cons (K.int IntKind.i64) (Ks.cons (K.int IntKind.i64) (Ks.cons (K.int IntKind.i64) (Ks.cons (K.int IntKind.i64) (Ks.cons (K.int IntKind.i64) (Ks.cons (K.sl (Ks.cons (K.int IntKind.i64) Ks.nil)) Ks.nil)))))))) [(x5.fst, x5.snd.fst, x5.snd.snd, y13.fst, y13.snd, (Rt.sub y11 y12).fst.fst, (Rt.sub y11 y12).fst.snd, y14.snd.snd.snd.snd.snd.snd.snd.fst)] false])
                else none)
                | none => none)
              | none => none))
        else none)
        | none => none)
      | none => none)) := by kernel_rfl

noncomputable abbrev f12bcuts : Cuts := look [(9, [1, 2, 3, 4, 6, 7, 8, 9]), (1000006, [12006, 1, 2, 3, 4, 6])]
noncomputable abbrev f12bt9 : List Item := itemsAtR (rfOf (fb Tryd.f12) 6) 9
def f12bs0 (k : Int) (n1 : Int) (l2 : List (Int × List (Int × Int × Int) × List Bool × Int × Int × Int × Int × List Int × List UInt8)) (n3 : Int) (l4 : List (Int × Int)) (x5 : Int × Int × Int) (l6 : List (Int × Int × Int × Int × Int × Int × Int × List Int)) : St := { fr := [(1, V.ref 1 0 0 0), (2, V.ref 2 0 0 0), (3, V.ref 3 0 0 0), (4, V.ref 4 0 0 0), (6, V.ref 5 0 0 0), (7, V.int IntKind.i64 k), (8, V.ref 6 0 0 0), (9, V.int IntKind.i64 n1)], hp := [(0, Ob.loop 12006 [(1, V.ref 1 0 0 0), (2, V.ref 2 0 0 0), (3, V.ref 3 0 0 0), (4, V.ref 4 0 0 0), (6, V.ref 5 0 0 0)] 1), (1, Ob.var [V.sl rEvent l2]), (2, Ob.var [V.nilsl]), (3, Ob.var [V.int IntKind.i64 n3]), (4, Ob.var [V.sl rIv l4]), (5, Ob.var [V.own 7]), (6, Ob.var [V.int IntKind.i64 x5.fst, V.int IntKind.i64 x5.snd.fst, V.int IntKind.i64 x5.snd.snd]), (7, Ob.arr (Ks.cons kI (Ks.cons kI (Ks.cons kI (Ks.cons kI (Ks.cons kI (Ks.cons kI (Ks.cons kI (Ks.cons (K.sl rI) Ks.nil)))))))) l6 false)], nx := 8 }
theorem f12b_go {R : Type} (J : List Item → St → Option R) (kk : V → List Ob → Option R) (l : List (Int × List (Int × Int × Int) × List Bool × Int × Int × Int × Int × List Int × List UInt8)) (ss : List (Int × Int)) (n : Int) (o : List (Int × Int × Int × Int × Int × Int × Int × List Int)) (k : Int) (p : Int × Int × Int) :
  vseg ((E21 8)) f12bcuts 1 J (vendR 1 kk) 100000 true (roundTodo (rfOf (fb Tryd.f12) 6)) (startR (rfOf (fb Tryd.f12) 6) ([V.yld (0 : Nat), V.int IntKind.i64 k, enc true rPitch p]).tail ([Ob.loop (12006 : Nat) [((1 : Nat), V.ref (1 : Nat) (0 : Nat) (0 : Nat) (0 : Nat)), ((2 : Nat), V.ref (2 : Nat) (0 : Nat) (0 : Nat) (0 : Nat)), ((3 : Nat), V.ref (3 : Nat) (0 : Nat) (0 : Nat) (0 : Nat)), ((4 : Nat), V.ref (4 : Nat) (0 : Nat) (0 : Nat) (0 : Nat)), ((6 : Nat), V.ref (5 : Nat) (0 : Nat) (0 : Nat) (0 : Nat))] (0 : Nat), Ob.var [V.sl rEvent l], Ob.var [V.nilsl], Ob.var [V.int IntKind.i64 n], Ob.var [V.sl rIv ss], Ob.var [V.own (6 : Nat)], Ob.arr (Ks.cons kI (Ks.cons kI (Ks.cons kI (Ks.cons kI (Ks.cons kI (Ks.cons kI (Ks.cons kI (Ks.cons (K.sl rI) Ks.nil)))))))) o false])) =
  J f12bt9 (f12bs0 (k) (k) (l) (n) (ss) (p) (o)) := by kernel_rfl
theorem f12b_0 {R : Type} (J : List Item → St → Option R) (kk : V → List Ob → Option R) (k : Int) (n1 : Int) (l2 : List (Int × List (Int × Int × Int) × List Bool × Int × Int × Int × Int × List Int × List UInt8)) (n3 : Int) (l4 : List (Int × Int)) (x5 : Int × Int × Int) (l6 : List (Int × Int × Int × Int × Int × Int × Int × List Int)) :
  vseg ((E21 8)) f12bcuts 1 J (vendR 1 kk) 100000 true f12bt9 (f12bs0 k n1 l2 n3 l4 x5 l6) =
  (bif decide (IntKind.i64.wrap (n1 + (1 : Int)) < (↑l2.length : Int)) then
    (match idx l2 n1 with
      | some y7 => (bif decide ((Ev.pitches y7).length < (4611686018427387904 : Nat)) then
        (bif (findKey rPitch.beq x5 (Ev.tm y7)).getD false then
          J f12bt9 (f12bs0 (k) (IntKind.i64.wrap (n1 + (1 : Int))) (l2) (n3) (l4) (x5) (l6))
        else (match idx l4 (IntKind.i64.wrap (n1 + (1 : Int))) with
            | some y8 => (match idx l4 k with
              | some y9 => (bif Rt.i64 y8 && Rt.i64 y9 then
                (bif !decide ((Rt.sub y8 y9).snd = (0 : Int)) then
                  kk (V.bool false) ([Ob.loop 12006 [(1, V.ref 1 0 0 0), (2, V.ref 2 0 0 0), (3, V.ref 3 0 0 0), (4, V.ref 4 0 0 0), (6, V.ref 5 0 0 0)] 3, Ob.var [V.sl rEvent l2], Ob.var [V.nilsl], Ob.var [V.int IntKind.i64 (Rt.sub y8 y9).snd], Ob.var [V.sl rIv l4], Ob.var [V.own 6], Ob.arr (Ks.cons kI (Ks.cons kI (Ks.cons kI (Ks.cons kI (Ks.cons kI (Ks.cons kI (Ks.cons kI (Ks.cons (K.sl rI) Ks.nil)))))))) l6 false])
                else (match idx l4 k with
                    | some y10 => (match idx l2 k with
                      | some y11 => (bif decide (List.length y11.snd.snd.snd.snd.snd.snd.snd.fst * (8 : Nat) ≤ bytesMost) then
                        (bif decide ((l6.length + 1) * 80 ≤ bytesMost) then
                          kk (V.bool true) ([Ob.loop 12006 [(1, V.ref 1 0 0 0), (2, V.ref 2 0 0 0), (3, V.ref 3 0 0 0), (4, V.ref 4 0 0 0), (6, V.ref 5 0 0 0)] 0, Ob.var [V.sl rEvent l2], Ob.var [V.nilsl], Ob.var [V.int IntKind.i64 n3], Ob.var [V.sl rIv l4], Ob.var [V.own 6], Ob.arr (Ks.cons (K.int IntKind.i64) (Ks.cons (K.int IntKind.i64) (Ks.cons (K.int IntKind.i64) (Ks.cons (K.int IntKind.i64) (Ks.cons (K.int IntKind.i64) (Ks.cons (K.int IntKind.i64) (Ks.cons (K.int IntKind.i64) (Ks.cons (K.sl (Ks.cons (K.int IntKind.i64) Ks.nil)) Ks.nil)))))))) (l6 ++ [(x5.fst, x5.snd.fst, x5.snd.snd, y10.fst, y10.snd, (Rt.sub y8 y9).fst.fst, (Rt.sub y8 y9).fst.snd, y11.snd.snd.snd.snd.snd.snd.snd.fst)]) false])
                        else none)
                      else none)
                      | none => none)
                    | none => none))
              else none)
              | none => none)
            | none => none))
      else none)
      | none => none)
  else (match idx l4 (IntKind.i64.wrap (n1 + (1 : Int))) with
      | some y12 => (match idx l4 k with
        | some y13 => (bif Rt.i64 y12 && Rt.i64 y13 then
          (bif !decide ((Rt.sub y12 y13).snd = (0 : Int)) then
            kk (V.bool false) ([Ob.loop 12006 [(1, V.ref 1 0 0 0), (2, V.ref 2 0 0 0), (3, V.ref 3 0 0 0), (4, V.ref 4 0 0 0), (6, V.ref 5 0 0 0)] 3, Ob.var [V.sl rEvent l2], Ob.var [V.nilsl], Ob.var [V.int IntKind.i64 (Rt.sub y12 y13).snd], Ob.var [V.sl rIv l4], Ob.var [V.own 6], Ob.arr (Ks.cons kI (Ks.cons kI (Ks.cons kI (Ks.cons kI (Ks.cons kI (Ks.cons kI (Ks.cons kI (Ks.cons (K.sl rI) Ks.nil)))))))) l6 false])
          else (match idx l4 k with
              | some y14 => (match idx l2 k with
                | some y15 => (bif decide (List.length y15.snd.snd.snd.snd.snd.snd.snd.fst * (8 : Nat) ≤ bytesMost) then
                  (bif decide ((l6.length + 1) * 80 ≤ bytesMost) then
                    kk (V.bool true) ([Ob.loop 12006 [(1, V.ref 1 0 0 0), (2, V.ref 2 0 0 0), (3, V.ref 3 0 0 0), (4, V.ref 4 0 0 0), (6, V.ref 5 0 0 0)] 0, Ob.var [V.sl rEvent l2], Ob.var [V.nilsl], Ob.var [V.int IntKind.i64 n3], Ob.var [V.sl rIv l4], Ob.var [V.own 6], Ob.arr (Ks.cons (K.int IntKind.i64) (Ks.cons (K.int IntKind.i64) (Ks.cons (K.int IntKind.i64) (Ks.cons (K.int IntKind.i64) (Ks.cons (K.int IntKind.i64) (Ks.cons (K.int IntKind.i64) (Ks.cons (K.int IntKind.i64) (Ks.cons (K.sl (Ks.cons (K.int IntKind.i64) Ks.nil)) Ks.nil)))))))) (l6 ++ [(x5.fst, x5.snd.fst, x5.snd.snd, y14.fst, y14.snd, (Rt.sub y12 y13).fst.fst, (Rt.sub y12 y13).fst.snd, y15.snd.snd.snd.snd.snd.snd.snd.fst)]) false])
                  else none)
                else none)
                | none => none)
              | none => none))
        else none)
        | none => none)
      | none => none)) := by kernel_rfl

end Vm.S07

open Go Go.Proofs
namespace Vm.S07
abbrev rSound : Ks := .cons kI (.cons kI (.cons kI (.cons kI (.cons kI (.cons kI (.cons kI (.cons (.sl rI) .nil)))))))
abbrev rFr : List (Nat × Nat) := [(1, 1), (2, 2), (3, 3), (4, 4), (6, 5)]
theorem fin12 {l : Vo} {ss : List (Int × Int)} {k : Nat} {p : Pt} (hG : roundG l ss k p = true) {j : Nat} (hj : j < l.length) (hk : k ≤ j) (ht : toLen p (l.drop j) = 0) (hjk : j + toLen p (l.drop j) = k + toLen p (l.drop k)) :
    ∃ (a b : Int × Int) (e : Ev), IntKind.i64.wrap ((j : Int) + 1) = ((j + 1 : Nat) : Int) ∧ idx ss ((j + 1 : Nat) : Int) = some a ∧ idx ss (k : Int) = some b ∧ idx l (k : Int) = some e ∧ Rt.i64 a = true ∧ Rt.i64 b = true ∧ decide ((Rt.sub a b).2 = 0) = true ∧ decide ((Ev.mk e).length * 8 ≤ bytesMost) = true ∧
      soundOf l ss k p = (p.1, p.2.1, p.2.2, b.1, b.2, (Rt.sub a b).1.1, (Rt.sub a b).1.2, Ev.mk e) := by
  simp only [roundG, Bool.and_eq_true, decide_eq_true_eq, Vo.tiny] at hG
  obtain ⟨h1, ⟨h2, h3⟩, h4, h5, h6⟩ := hG
  have hkl : k < l.length := by omega
  have ha : j + 1 < ss.length := by omega
  have hb : k < ss.length := by omega
  have hto : k + toLen p (l.drop k) = j := by omega
  have et := List.all_eq_true.1 h3 _ (List.getElem_mem hkl)
  simp only [Ev.tiny, Bool.and_eq_true, decide_eq_true_eq] at et
  have e1 : ss[j + 1]?.getD (0, 0) = ss[j + 1] := by rw [List.getElem?_eq_getElem ha]; rfl
  have e2 : ss[k]?.getD (0, 0) = ss[k] := by rw [List.getElem?_eq_getElem hb]; rfl
  have e3 : l[k]?.getD zEv = l[k] := by rw [List.getElem?_eq_getElem hkl]; rfl
  have e4 : subOf l ss k p = Rt.sub ss[j + 1] ss[k] := by simp only [subOf, hto, e1, e2]
  refine ⟨ss[j + 1], ss[k], l[k], wrap_succ (by omega), by rw [idx_nat, List.getElem?_eq_getElem ha], by rw [idx_nat, List.getElem?_eq_getElem hb], by rw [idx_nat, List.getElem?_eq_getElem hkl], List.all_eq_true.1 h5 _ (List.getElem_mem ha), List.all_eq_true.1 h5 _ (List.getElem_mem hb), ?_, ?_, ?_⟩
  · rw [← e4]; exact decide_eq_true h6
  · refine decide_eq_true ?_
    simp only [bytesMost]
    omega
  · simp only [soundOf, e2, e3, e4]
theorem f12a_loop {R : Type} (kk : V → List Ob → Option R) (l : Vo) (ss : List (Int × Int)) (n : Int) (k : Nat) (p : Pt) (hG : roundG l ss k p = true) : ∀ (d j : Nat), j + d + 1 = l.length → k ≤ j → j + toLen p (l.drop j) = k + toLen p (l.drop k) →
    vrun (E21 8) f12acuts 1 100000 (vendR 1 kk) (d + 1) f12at9 (f12as0 k j l n ss p) = kk (.bool true) [.loop 12006 (refFr rFr) 0, .var [.sl rEvent l], .var [.nilsl], .var [.int .i64 n], .var [.sl rIv ss], .var [.own 6], .arr rSound [soundOf l ss k p] false] := by
  have hG' := hG
  simp only [roundG, Bool.and_eq_true, decide_eq_true_eq, Vo.tiny] at hG'
  intro d
  induction d with
  | zero =>
    intro j hj hk hto
    have ht : toLen p (l.drop j) = 0 := by rw [List.drop_eq_getElem_cons (by omega), List.drop_eq_nil_of_le (by omega)]; rfl
    obtain ⟨a, b, e, q0, q1, q2, q3, q4, q5, q6, q7, q8⟩ := fin12 hG (j := j) (by omega) hk ht hto
    rw [vrun_succ, f12a_0, q0, bif_neg (by exact decide_eq_false (by omega))]
    simp only [q1, q2, q3, q4, q5, q6, q7, Bool.and_self, cond_true, cond_false, Bool.not_true]
    rw [q8]
    rfl
  | succ d ih =>
    intro j hj hk hto
    have h1 : j < l.length := by omega
    have h2 : j + 1 < l.length := by omega
    have et := List.all_eq_true.1 hG'.2.1.2 _ (List.getElem_mem h1)
    simp only [Ev.tiny, Bool.and_eq_true, decide_eq_true_eq] at et
    have ed : l.drop j = l[j] :: l[j + 1] :: l.drop (j + 1 + 1) := by rw [List.drop_eq_getElem_cons h1, List.drop_eq_getElem_cons h2]
    rw [vrun_succ, f12a_0, wrap_succ (by omega), bif_pos (by exact decide_eq_true (by omega)), idx_nat, List.getElem?_eq_getElem h1]
    dsimp only
    rw [bif_pos (by exact decide_eq_true (by omega)), show (findKey rPitch.beq p (Ev.tm l[j])).getD false = l[j].tied p from Ev.tm_get _ _]
    cases hti : l[j].tied p with
    | true =>
      rw [cond_true]
      refine ih (j + 1) (by omega) (by omega) ?_
      rw [← hto, ed, toLen, if_pos hti, List.drop_eq_getElem_cons h2]
      omega
    | false =>
      have ht : toLen p (l.drop j) = 0 := by rw [ed, toLen, if_neg (by rw [hti]; decide)]
      obtain ⟨a, b, e, q0, q1, q2, q3, q4, q5, q6, q7, q8⟩ := fin12 hG (j := j) (by omega) hk ht hto
      simp only [q1, q2, q3, q4, q5, q6, q7, Bool.and_self, cond_true, cond_false, Bool.not_true]
      rw [q8]
      rfl
theorem f12b_loop {R : Type} (kk : V → List Ob → Option R) (l : Vo) (ss : List (Int × Int)) (n : Int) (o : List So) (ho : o.length ≤ 1000000) (k : Nat) (p : Pt) (hG : roundG l ss k p = true) : ∀ (d j : Nat), j + d + 1 = l.length → k ≤ j → j + toLen p (l.drop j) = k + toLen p (l.drop k) →
    vrun (E21 8) f12bcuts 1 100000 (vendR 1 kk) (d + 1) f12bt9 (f12bs0 k j l n ss p o) = kk (.bool true) [.loop 12006 (refFr rFr) 0, .var [.sl rEvent l], .var [.nilsl], .var [.int .i64 n], .var [.sl rIv ss], .var [.own 6], .arr rSound (o ++ [soundOf l ss k p]) false] := by
  have hG' := hG
  simp only [roundG, Bool.and_eq_true, decide_eq_true_eq, Vo.tiny] at hG'
  have q9 : decide ((o.length + 1) * 80 ≤ bytesMost) = true := decide_eq_true (by simp only [bytesMost]; omega)
  intro d
  induction d with
  | zero =>
    intro j hj hk hto
    have ht : toLen p (l.drop j) = 0 := by rw [List.drop_eq_getElem_cons (by omega), List.drop_eq_nil_of_le (by omega)]; rfl
    obtain ⟨a, b, e, q0, q1, q2, q3, q4, q5, q6, q7, q8⟩ := fin12 hG (j := j) (by omega) hk ht hto
    rw [vrun_succ, f12b_0, q0, bif_neg (by exact decide_eq_false (by omega))]
    simp only [q1, q2, q3, q4, q5, q6, q7, q9, Bool.and_self, cond_true, cond_false, Bool.not_true]
    rw [q8]
    rfl
  | succ d ih =>
    intro j hj hk hto
    have h1 : j < l.length := by omega
    have h2 : j + 1 < l.length := by omega
    have et := List.all_eq_true.1 hG'.2.1.2 _ (List.getElem_mem h1)
    simp only [Ev.tiny, Bool.and_eq_true, decide_eq_true_eq] at et
    have ed : l.drop j = l[j] :: l[j + 1] :: l.drop (j + 1 + 1) := by rw [List.drop_eq_getElem_cons h1, List.drop_eq_getElem_cons h2]
    rw [vrun_succ, f12b_0, wrap_succ (by omega), bif_pos (by exact decide_eq_true (by omega)), idx_nat, List.getElem?_eq_getElem h1]
    dsimp only
    rw [bif_pos (by exact decide_eq_true (by omega)), show (findKey rPitch.beq p (Ev.tm l[j])).getD false = l[j].tied p from Ev.tm_get _ _]
    cases hti : l[j].tied p with
    | true =>
      rw [cond_true]
      refine ih (j + 1) (by omega) (by omega) ?_
      rw [← hto, ed, toLen, if_pos hti, List.drop_eq_getElem_cons h2]
      omega
    | false =>
      have ht : toLen p (l.drop j) = 0 := by rw [ed, toLen, if_neg (by rw [hti]; decide)]
      obtain ⟨a, b, e, q0, q1, q2, q3, q4, q5, q6, q7, q8⟩ := fin12 hG (j := j) (by omega) hk ht hto
      simp only [q1, q2, q3, q4, q5, q6, q7, q9, Bool.and_self, cond_true, cond_false, Bool.not_true]
      rw [q8]
      rfl
theorem rf12 : gls.rf 12006 = some (rfOf (fb Tryd.f12) 6) := by kernel_rfl
abbrev rVs (k : Int) (p : Pt) : List V := [.int .i64 k, enc true rPitch p]
abbrev rOs (l : Vo) (ss : List (Int × Int)) (n : Int) : List Ob := [.loop 12006 (refFr rFr) 0, .var [.sl rEvent l], .var [.nilsl], .var [.int .i64 n], .var [.sl rIv ss], .var [.nilsl]]
abbrev rOsO (l : Vo) (ss : List (Int × Int)) (n : Int) (o : List So) : List Ob := [.loop 12006 (refFr rFr) 0, .var [.sl rEvent l], .var [.nilsl], .var [.int .i64 n], .var [.sl rIv ss], .var [.own 6], .arr rSound o false]
theorem rd12_a (l : Vo) (ss : List (Int × Int)) (n : Int) (k : Nat) (p : Pt) (hG : roundG l ss k p = true) : Contract Tryd.prog gls 1000012006 (.yld 0 :: rVs k p) (rOs l ss n) (.bool true) (rOsO l ss n [soundOf l ss k p]) := by
  have hk : k < l.length := by simp only [roundG, Bool.and_eq_true, decide_eq_true_eq] at hG; exact hG.1
  have hv : vrun (E21 8) f12acuts (rootsN (.yld 0 :: rVs k p)) 100000 (vendR (rootsN (.yld 0 :: rVs k p)) fun v os => some (v, os)) (l.length - k - 1 + 1 + 1) (roundTodo (rfOf (fb Tryd.f12) 6)) (startR (rfOf (fb Tryd.f12) 6) (rVs k p) (rOs l ss n)) = some (.bool true, rOsO l ss n [soundOf l ss k p]) := by
    rw [vrun_succ]
    refine (f12a_go (vrun (E21 8) f12acuts 1 100000 (vendR 1 fun v os => some (v, os)) (l.length - k - 1 + 1)) _ l ss n k p).trans ?_
    exact f12a_loop _ l ss n k p hG (l.length - k - 1) k (by omega) (Nat.le_refl _) rfl
  have h := contract_round (P := Tryd.prog) (E := E21 8) mixed (ready21 8) (y := 12006) (q := rfOf (fb Tryd.f12) 6) (by rw [glE21]; exact rf12) (vs := rVs k p) (by kernel_rfl) ⟨rfOk_no (by kernel_rfl), rfOk_no (by kernel_rfl)⟩ hv (show 1 ≤ _ from Nat.succ_le_succ (Nat.zero_le _))
  rw [glE21] at h
  exact h
theorem rd12_b (l : Vo) (ss : List (Int × Int)) (n : Int) (o : List So) (k : Nat) (p : Pt) (hG : (decide (o.length ≤ 1000000) && roundG l ss k p) = true) : Contract Tryd.prog gls 1000012006 (.yld 0 :: rVs k p) (rOsO l ss n o) (.bool true) (rOsO l ss n (o ++ [soundOf l ss k p])) := by
  rw [Bool.and_eq_true, decide_eq_true_eq] at hG
  have hk : k < l.length := by have := hG.2; simp only [roundG, Bool.and_eq_true, decide_eq_true_eq] at this; exact this.1
  have hv : vrun (E21 8) f12bcuts (rootsN (.yld 0 :: rVs k p)) 100000 (vendR (rootsN (.yld 0 :: rVs k p)) fun v os => some (v, os)) (l.length - k - 1 + 1 + 1) (roundTodo (rfOf (fb Tryd.f12) 6)) (startR (rfOf (fb Tryd.f12) 6) (rVs k p) (rOsO l ss n o)) = some (.bool true, rOsO l ss n (o ++ [soundOf l ss k p])) := by
    rw [vrun_succ]
    refine (f12b_go (vrun (E21 8) f12bcuts 1 100000 (vendR 1 fun v os => some (v, os)) (l.length - k - 1 + 1)) _ l ss n o k p).trans ?_
    exact f12b_loop _ l ss n o hG.1 k p hG.2 (l.length - k - 1) k (by omega) (Nat.le_refl _) rfl
  have h := contract_round (P := Tryd.prog) (E := E21 8) mixed (ready21 8) (y := 12006) (q := rfOf (fb Tryd.f12) 6) (by rw [glE21]; exact rf12) (vs := rVs k p) (by kernel_rfl) ⟨rfOk_no (by kernel_rfl), rfOk_no (by kernel_rfl)⟩ hv (show 1 ≤ _ from Nat.succ_le_succ (Nat.zero_le _))
  rw [glE21] at h
  exact h
/-- reads a round's arguments: the event's place and a pitch -/
def rdArgs : List V → Option (Int × Pt)
  | [.yld 0, a, .agg [b, c, d]] => match intX a, intX b, intX c, intX d with
    | some a, some b, some c, some d => some (a, b, c, d)
    | _, _, _, _ => none
  | _ => none
theorem rdArgs_eq {args : List V} {k : Int} {p : Pt} (h : rdArgs args = some (k, p)) : args = .yld 0 :: rVs k p := by
  unfold rdArgs at h
  split at h
  · split at h
    · rename_i h1 h2 h3 h4
      cases h
      rw [intX_eq h1, intX_eq h2, intX_eq h3, intX_eq h4]
      rfl
    · cases h
  · cases h
def rOsM (l : Vo) (ss : List (Int × Int)) (n : Int) : Option (List So) → List Ob
  | none => rOs l ss n
  | some o => rOsO l ss n o
/-- reads what the loop holds: the voice, its sums, what stands at the error, what is out -/
def rdOs : List Ob → Option (Vo × List (Int × Int) × Int × Option (List So))
  | [lo, .var [a], .var [.nilsl], .var [n], .var [b], .var [.nilsl]] => bif loopX 12006 rFr lo then (match slX rEvent a, intX n, slX rIv b with
    | some l, some n, some ss => some (l, ss, n, none)
    | _, _, _ => none) else none
  | [lo, .var [a], .var [.nilsl], .var [n], .var [b], .var [.own 6], o] => bif loopX 12006 rFr lo then (match slX rEvent a, intX n, slX rIv b, arrX rSound o with
    | some l, some n, some ss, some o => some (l, ss, n, some o)
    | _, _, _, _ => none) else none
  | _ => none
theorem rdOs_eq {os : List Ob} {l : Vo} {ss : List (Int × Int)} {n : Int} {o : Option (List So)} (h : rdOs os = some (l, ss, n, o)) : os = rOsM l ss n o := by
  unfold rdOs at h
  split at h
  · rename_i lo a n b
    cases hl : loopX 12006 rFr lo with
    | false => rw [hl] at h; cases h
    | true =>
      rw [hl, cond_true] at h
      split at h
      · rename_i l' n' ss' h1 h2 h3
        cases h
        rw [loopX_eq hl, slX_eq h1, intX_eq h2, slX_eq h3]
        rfl
      · cases h
  · rename_i lo a n b o
    cases hl : loopX 12006 rFr lo with
    | false => rw [hl] at h; cases h
    | true =>
      rw [hl, cond_true] at h
      split at h
      · rename_i l' n' ss' o' h1 h2 h3 h4
        cases h
        rw [loopX_eq hl, slX_eq h1, intX_eq h2, slX_eq h3, arrX_eq h4]
        rfl
      · cases h
  · cases h
noncomputable def r12e : Entry Tryd.prog gls where
  f := 1000012006
  g := fun args os => match rdArgs args, rdOs os with
    | some (k, p), some (l, ss, n, none) => some (decide (0 ≤ k) && roundG l ss k.toNat p, .bool true, rOsO l ss n [soundOf l ss k.toNat p])
    | some (k, p), some (l, ss, n, some o) => some (decide (0 ≤ k) && (decide (o.length ≤ 1000000) && roundG l ss k.toNat p), .bool true, rOsO l ss n (o ++ [soundOf l ss k.toNat p]))
    | _, _ => none
  says := fun args os c v os' h hc => by
    subst hc
    split at h
    · rename_i k p l ss n hq hz
      have ha := rdArgs_eq hq
      have hb := rdOs_eq hz
      dsimp only [rOsM] at hb
      subst ha; subst hb
      simp only [Option.some.injEq, Prod.mk.injEq] at h
      obtain ⟨h1, rfl, rfl⟩ := h
      rw [Bool.and_eq_true, decide_eq_true_eq] at h1
      have := rd12_a l ss n k.toNat p h1.2
      rw [Int.toNat_of_nonneg h1.1] at this
      exact this
    · rename_i k p l ss n o hq hz
      have ha := rdArgs_eq hq
      have hb := rdOs_eq hz
      dsimp only [rOsM] at hb
      subst ha; subst hb
      simp only [Option.some.injEq, Prod.mk.injEq] at h
      obtain ⟨h1, rfl, rfl⟩ := h
      rw [Bool.and_eq_true, decide_eq_true_eq] at h1
      have := rd12_b l ss n o k.toNat p h1.2
      rw [Int.toNat_of_nonneg h1.1] at this
      exact this
    · cases h
noncomputable def es22 : List (Entry Tryd.prog gls) := [r12e] ++ es21
noncomputable def E22 (n : Nat) : Env := interp fns (look tys) gls mvs (tabOf es22) 100000 n
theorem ready22 (n : Nat) : Ready Tryd.prog (E22 n) := ready_of mixed fnsAll tysOk rfsOk n
theorem glE22 (n : Nat) : (E22 n).gl = gls := by cases n <;> rfl
end Vm.S07

open Go Go.Proofs
namespace Vm.S07
noncomputable abbrev f57cuts : Cuts := look [(2, [0, 3, 9, 10, 11]), (5, [0, 3, 4, 5, 9, 10, 11, 17, 18, 19])]
noncomputable abbrev f57t5 : List Item := itemsAt (fb Tryd.f57).2 5
noncomputable abbrev f57t2 : List Item := itemsAt (fb Tryd.f57).2 2
def f57s0 (v : List (Int × List (Int × Int × Int) × List Bool × Int × Int × Int × Int × List Int × List UInt8)) (n1 : Int) (l2 : List (Int × List (Int × Int × Int) × List Bool × Int × Int × Int × Int × List Int × List UInt8)) (l3 : List (Int × List (Int × Int × Int) × List Bool × Int × Int × Int × Int × List Int × List UInt8)) (n4 : Int) (l5 : List (Int × Int)) : St := { fr := [(0, V.yld 0), (3, V.nilmap), (9, V.sl rEvent v), (10, V.int IntKind.i64 (↑v.length : Int)), (11, V.int IntKind.i64 n1)], hp := [(0, Ob.loop 12006 [(1, V.ref 2 0 0 0), (2, V.ref 3 0 0 0), (3, V.ref 4 0 0 0), (4, V.ref 5 0 0 0), (6, V.ref 6 0 0 0)] 0), (1, Ob.var [V.sl rEvent l2]), (2, Ob.var [V.sl rEvent l3]), (3, Ob.var [V.nilsl]), (4, Ob.var [V.int IntKind.i64 n4]), (5, Ob.var [V.sl rIv l5]), (6, Ob.var [V.nilsl])], nx := 7 }
def f57s1 (n1 : Int) (v : List (Int × List (Int × Int × Int) × List Bool × Int × Int × Int × Int × List Int × List UInt8)) (y6 : Int × List (Int × Int × Int) × List Bool × Int × Int × Int × Int × List Int × List UInt8) (n7 : Int) (l8 : List (Int × List (Int × Int × Int) × List Bool × Int × Int × Int × Int × List Int × List UInt8)) (x9 : Int × List (Int × Int × Int) × List Bool × Int × Int × Int × Int × List Int × List UInt8) (l10 : List (Int × List (Int × Int × Int) × List Bool × Int × Int × Int × Int × List Int × List UInt8)) (n11 : Int) (l12 : List (Int × Int)) : St := { fr := [(0, V.yld 0), (3, V.nilmap), (4, V.int IntKind.i64 n1), (5, V.ref 2 0 0 0), (9, V.sl rEvent v), (10, V.int IntKind.i64 (↑v.length : Int)), (11, V.int IntKind.i64 n1), (17, V.sl rPitch y6.snd.fst), (18, V.int IntKind.i64 (↑(List.length y6.snd.fst) : Int)), (19, V.int IntKind.i64 n7)], hp := [(0, Ob.loop 12006 [(1, V.ref 3 0 0 0), (2, V.ref 4 0 0 0), (3, V.ref 5 0 0 0), (4, V.ref 6 0 0 0), (6, V.ref 7 0 0 0)] 0), (1, Ob.var [V.sl rEvent l8]), (2, Ob.var [V.int IntKind.i64 x9.fst, V.sl rPitch x9.snd.fst, V.sl rB x9.snd.snd.fst, V.int IntKind.i64 x9.snd.snd.snd.fst, V.int IntKind.i64 x9.snd.snd.snd.snd.fst, V.int IntKind.i64 x9.snd.snd.snd.snd.snd.fst, V.int IntKind.i64 x9.snd.snd.snd.snd.snd.snd.fst, V.sl rI x9.snd.snd.snd.snd.snd.snd.snd.fst, V.str x9.snd.snd.snd.snd.snd.snd.snd.snd]), (3, Ob.var [V.sl rEvent l10]), (4, Ob.var [V.nilsl]), (5, Ob.var [V.int IntKind.i64 n11]), (6, Ob.var [V.sl rIv l12]), (7, Ob.var [V.nilsl])], nx := 8 }
def f57s2 (n1 : Int) (v : List (Int × List (Int × Int × Int) × List Bool × Int × Int × Int × Int × List Int × List UInt8)) (y6 : Int × List (Int × Int × Int) × List Bool × Int × Int × Int × Int × List Int × List UInt8) (n14 : Int) (l15 : List (Int × List (Int × Int × Int) × List Bool × Int × Int × Int × Int × List Int × List UInt8)) (x16 : Int × List (Int × Int × Int) × List Bool × Int × Int × Int × Int × List Int × List UInt8) (l17 : List (Int × List (Int × Int × Int) × List Bool × Int × Int × Int × Int × List Int × List UInt8)) (n18 : Int) (l19 : List (Int × Int)) (l20 : List (Int × Int × Int × Int × Int × Int × Int × List Int)) : St := { fr := [(0, V.yld 0), (3, V.nilmap), (4, V.int IntKind.i64 n1), (5, V.ref 2 0 0 0), (9, V.sl rEvent v), (10, V.int IntKind.i64 (↑v.length : Int)), (11, V.int IntKind.i64 n1), (17, V.sl rPitch y6.snd.fst), (18, V.int IntKind.i64 (↑(List.length y6.snd.fst) : Int)), (19, V.int IntKind.i64 n14)], hp := [(0, Ob.loop 12006 [(1, V.ref 3 0 0 0), (2, V.ref 4 0 0 0), (3, V.ref 5 0 0 0), (4, V.ref 6 0 0 0), (6, V.ref 7 0 0 0)] 0), (1, Ob.var [V.sl rEvent l15]), (2, Ob.var [V.int IntKind.i64 x16.fst, V.sl rPitch x16.snd.fst, V.sl rB x16.snd.snd.fst, V.int IntKind.i64 x16.snd.snd.snd.fst, V.int IntKind.i64 x16.snd.snd.snd.snd.fst, V.int IntKind.i64 x16.snd.snd.snd.snd.snd.fst, V.int IntKind.i64 x16.snd.snd.snd.snd.snd.snd.fst, V.sl rI x16.snd.snd.snd.snd.snd.snd.snd.fst, V.str x16.snd.snd.snd.snd.snd.snd.snd.snd]), (3, Ob.var [V.sl rEvent l17]), (4, Ob.var [V.nilsl]), (5, Ob.var [V.int IntKind.i64 n18]), (6, Ob.var [V.sl rIv l19]), (7, Ob.var [V.own 8]), (8, Ob.arr rSound l20 false)], nx := 9 }
def f57s3 (v : List (Int × List (Int × Int × Int) × List Bool × Int × Int × Int × Int × List Int × List UInt8)) (n21 : Int) (l22 : List (Int × List (Int × Int × Int) × List Bool × Int × Int × Int × Int × List Int × List UInt8)) (e23 : List ((Int × Int × Int) × Bool)) (l24 : List (Int × List (Int × Int × Int) × List Bool × Int × Int × Int × Int × List Int × List UInt8)) (n25 : Int) (l26 : List (Int × Int)) : St := { fr := [(0, V.yld 0), (3, V.map 2), (9, V.sl rEvent v), (10, V.int IntKind.i64 (↑v.length : Int)), (11, V.int IntKind.i64 n21)], hp := [(0, Ob.loop 12006 [(1, V.ref 3 0 0 0), (2, V.ref 4 0 0 0), (3, V.ref 5 0 0 0), (4, V.ref 6 0 0 0), (6, V.ref 7 0 0 0)] 0), (1, Ob.var [V.sl rEvent l22]), (2, Ob.map rPitch true (Ks.cons K.bool Ks.nil) false e23), (3, Ob.var [V.sl rEvent l24]), (4, Ob.var [V.nilsl]), (5, Ob.var [V.int IntKind.i64 n25]), (6, Ob.var [V.sl rIv l26]), (7, Ob.var [V.nilsl])], nx := 8 }
def f57s4 (v : List (Int × List (Int × Int × Int) × List Bool × Int × Int × Int × Int × List Int × List UInt8)) (n28 : Int) (l29 : List (Int × List (Int × Int × Int) × List Bool × Int × Int × Int × Int × List Int × List UInt8)) (e30 : List ((Int × Int × Int) × Bool)) (l31 : List (Int × List (Int × Int × Int) × List Bool × Int × Int × Int × Int × List Int × List UInt8)) (n32 : Int) (l33 : List (Int × Int)) (l34 : List (Int × Int × Int × Int × Int × Int × Int × List Int)) : St := { fr := [(0, V.yld 0), (3, V.map 2), (9, V.sl rEvent v), (10, V.int IntKind.i64 (↑v.length : Int)), (11, V.int IntKind.i64 n28)], hp := [(0, Ob.loop 12006 [(1, V.ref 3 0 0 0), (2, V.ref 4 0 0 0), (3, V.ref 5 0 0 0), (4, V.ref 6 0 0 0), (6, V.ref 7 0 0 0)] 0), (1, Ob.var [V.sl rEvent l29]), (2, Ob.map rPitch true (Ks.cons K.bool Ks.nil) false e30), (3, Ob.var [V.sl rEvent l31]), (4, Ob.var [V.nilsl]), (5, Ob.var [V.int IntKind.i64 n32]), (6, Ob.var [V.sl rIv l33]), (7, Ob.var [V.own 8]), (8, Ob.arr rSound l34 false)], nx := 9 }
def f57s5 (n21 : Int) (v : List (Int × List (Int × Int × Int) × List Bool × Int × Int × Int × Int × List Int × List UInt8)) (y35 : Int × List (Int × Int × Int) × List Bool × Int × Int × Int × Int × List Int × List UInt8) (n36 : Int) (l37 : List (Int × List (Int × Int × Int) × List Bool × Int × Int × Int × Int × List Int × List UInt8)) (e38 : List ((Int × Int × Int) × Bool)) (x39 : Int × List (Int × Int × Int) × List Bool × Int × Int × Int × Int × List Int × List UInt8) (l40 : List (Int × List (Int × Int × Int) × List Bool × Int × Int × Int × Int × List Int × List UInt8)) (n41 : Int) (l42 : List (Int × Int)) : St := { fr := [(0, V.yld 0), (3, V.map 2), (4, V.int IntKind.i64 n21), (5, V.ref 3 0 0 0), (9, V.sl rEvent v), (10, V.int IntKind.i64 (↑v.length : Int)), (11, V.int IntKind.i64 n21), (17, V.sl rPitch y35.snd.fst), (18, V.int IntKind.i64 (↑(List.length y35.snd.fst) : Int)), (19, V.int IntKind.i64 n36)], hp := [(0, Ob.loop 12006 [(1, V.ref 4 0 0 0), (2, V.ref 5 0 0 0), (3, V.ref 6 0 0 0), (4, V.ref 7 0 0 0), (6, V.ref 8 0 0 0)] 0), (1, Ob.var [V.sl rEvent l37]), (2, Ob.map rPitch true (Ks.cons K.bool Ks.nil) false e38), (3, Ob.var [V.int IntKind.i64 x39.fst, V.sl rPitch x39.snd.fst, V.sl rB x39.snd.snd.fst, V.int IntKind.i64 x39.snd.snd.snd.fst, V.int IntKind.i64 x39.snd.snd.snd.snd.fst, V.int IntKind.i64 x39.snd.snd.snd.snd.snd.fst, V.int IntKind.i64 x39.snd.snd.snd.snd.snd.snd.fst, V.sl rI x39.snd.snd.snd.snd.snd.snd.snd.fst, V.str x39.snd.snd.snd.snd.snd.snd.snd.snd]), (4, Ob.var [V.sl rEvent l40]), (5, Ob.var [V.nilsl]), (6, Ob.var [V.int IntKind.i64 n41]), (7, Ob.var [V.sl rIv l42]), (8, Ob.var [V.nilsl])], nx := 9 }
def f57s6 (n28 : Int) (v : List (Int × List (Int × Int × Int) × List Bool × Int × Int × Int × Int × List Int × List UInt8)) (y43 : Int × List (Int × Int × Int) × List Bool × Int × Int × Int × Int × List Int × List UInt8) (n44 : Int) (l45 : List (Int × List (Int × Int × Int) × List Bool × Int × Int × Int × Int × List Int × List UInt8)) (e46 : List ((Int × Int × Int) × Bool)) (x47 : Int × List (Int × Int × Int) × List Bool × Int × Int × Int × Int × List Int × List UInt8) (l48 : List (Int × List (Int × Int × Int) × List Bool × Int × Int × Int × Int × List Int × List UInt8)) (n49 : Int) (l50 : List (Int × Int)) (l51 : List (Int × Int × Int × Int × Int × Int × Int × List Int)) : St := { fr := [(0, V.yld 0), (3, V.map 2), (4, V.int IntKind.i64 n28), (5, V.ref 3 0 0 0), (9, V.sl rEvent v), (10, V.int IntKind.i64 (↑v.length : Int)), (11, V.int IntKind.i64 n28), (17, V.sl rPitch y43.snd.fst), (18, V.int IntKind.i64 (↑(List.length y43.snd.fst) : Int)), (19, V.int IntKind.i64 n44)], hp := [(0, Ob.loop 12006 [(1, V.ref 4 0 0 0), (2, V.ref 5 0 0 0), (3, V.ref 6 0 0 0), (4, V.ref 7 0 0 0), (6, V.ref 8 0 0 0)] 0), (1, Ob.var [V.sl rEvent l45]), (2, Ob.map rPitch true (Ks.cons K.bool Ks.nil) false e46), (3, Ob.var [V.int IntKind.i64 x47.fst, V.sl rPitch x47.snd.fst, V.sl rB x47.snd.snd.fst, V.int IntKind.i64 x47.snd.snd.snd.fst, V.int IntKind.i64 x47.snd.snd.snd.snd.fst, V.int IntKind.i64 x47.snd.snd.snd.snd.snd.fst, V.int IntKind.i64 x47.snd.snd.snd.snd.snd.snd.fst, V.sl rI x47.snd.snd.snd.snd.snd.snd.snd.fst, V.str x47.snd.snd.snd.snd.snd.snd.snd.snd]), (4, Ob.var [V.sl rEvent l48]), (5, Ob.var [V.nilsl]), (6, Ob.var [V.int IntKind.i64 n49]), (7, Ob.var [V.sl rIv l50]), (8, Ob.var [V.own 9]), (9, Ob.arr rSound l51 false)], nx := 10 }
def f57s7 (n21 : Int) (v : List (Int × List (Int × Int × Int) × List Bool × Int × Int × Int × Int × List Int × List UInt8)) (y35 : Int × List (Int × Int × Int) × List Bool × Int × Int × Int × Int × List Int × List UInt8) (n53 : Int) (l54 : List (Int × List (Int × Int × Int) × List Bool × Int × Int × Int × Int × List Int × List UInt8)) (e55 : List ((Int × Int × Int) × Bool)) (x56 : Int × List (Int × Int × Int) × List Bool × Int × Int × Int × Int × List Int × List UInt8) (l57 : List (Int × List (Int × Int × Int) × List Bool × Int × Int × Int × Int × List Int × List UInt8)) (n58 : Int) (l59 : List (Int × Int)) (l60 : List (Int × Int × Int × Int × Int × Int × Int × List Int)) : St := { fr := [(0, V.yld 0), (3, V.map 2), (4, V.int IntKind.i64 n21), (5, V.ref 3 0 0 0), (9, V.sl rEvent v), (10, V.int IntKind.i64 (↑v.length : Int)), (11, V.int IntKind.i64 n21), (17, V.sl rPitch y35.snd.fst), (18, V.int IntKind.i64 (↑(List.length y35.snd.fst) : Int)), (19, V.int IntKind.i64 n53)], hp := [(0, Ob.loop 12006 [(1, V.ref 4 0 0 0), (2, V.ref 5 0 0 0), (3, V.ref 6 0 0 0), (4, V.ref 7 0 0 0), (6, V.ref 8 0 0 0)] 0), (1, Ob.var [V.sl rEvent l54]), (2, Ob.map rPitch true (Ks.cons K.bool Ks.nil) false e55), (3, Ob.var [V.int IntKind.i64 x56.fst, V.sl rPitch x56.snd.fst, V.sl rB x56.snd.snd.fst, V.int IntKind.i64 x56.snd.snd.snd.fst, V.int IntKind.i64 x56.snd.snd.snd.snd.fst, V.int IntKind.i64 x56.snd.snd.snd.snd.snd.fst, V.int IntKind.i64 x56.snd.snd.snd.snd.snd.snd.fst, V.sl rI x56.snd.snd.snd.snd.snd.snd.snd.fst, V.str x56.snd.snd.snd.snd.snd.snd.snd.snd]), (4, Ob.var [V.sl rEvent l57]), (5, Ob.var [V.nilsl]), (6, Ob.var [V.int IntKind.i64 n58]), (7, Ob.var [V.sl rIv l59]), (8, Ob.var [V.own 9]), (9, Ob.arr rSound l60 false)], nx := 10 }
theorem f57_go {R : Type} (J : List Item → St → Option R) (kk : V → List Ob → Option R) (v : List (Int × List (Int × Int × Int) × List Bool × Int × Int × Int × Int × List Int × List UInt8)) (l : List (Int × List (Int × Int × Int) × List Bool × Int × Int × Int × Int × List Int × List UInt8)) (ss : List (Int × Int)) (n : Int) :
  vseg ((E22 8)) f57cuts 2 J (vend ((E22 8)) 2 (fb Tryd.f57).1.results.toList false kk) 100000 true [.code (fb Tryd.f57).2] (start ([V.yld (0 : Nat), V.ref (1 : Nat) (0 : Nat) (0 : Nat) (0 : Nat)]) ([Ob.loop (12006 : Nat) [((1 : Nat), V.ref (2 : Nat) (0 : Nat) (0 : Nat) (0 : Nat)), ((2 : Nat), V.ref (3 : Nat) (0 : Nat) (0 : Nat) (0 : Nat)), ((3 : Nat), V.ref (4 : Nat) (0 : Nat) (0 : Nat) (0 : Nat)), ((4 : Nat), V.ref (5 : Nat) (0 : Nat) (0 : Nat) (0 : Nat)), ((6 : Nat), V.ref (6 : Nat) (0 : Nat) (0 : Nat) (0 : Nat))] (0 : Nat), Ob.var [V.sl rEvent v], Ob.var [V.sl rEvent l], Ob.var [V.nilsl], Ob.var [V.int IntKind.i64 n], Ob.var [V.sl rIv ss], Ob.var [V.nilsl]])) =
  J f57t2 (f57s0 (v) (0 : Int) (v) (l) (n) (ss)) := by kernel_rfl
theorem f57_0 {R : Type} (J : List Item → St → Option R) (kk : V → List Ob → Option R) (v : List (Int × List (Int × Int × Int) × List Bool × Int × Int × Int × Int × List Int × List UInt8)) (n1 : Int) (l2 : List (Int × List (Int × Int × Int) × List Bool × Int × Int × Int × Int × List Int × List UInt8)) (l3 : List (Int × List (Int × Int × Int) × List Bool × Int × Int × Int × Int × List Int × List UInt8)) (n4 : Int) (l5 : List (Int × Int)) :
  vseg ((E22 8)) f57cuts 2 J (vend ((E22 8)) 2 (fb Tryd.f57).1.results.toList false kk) 100000 true f57t2 (f57s0 v n1 l2 l3 n4 l5) =
  (bif decide (n1 < (↑v.length : Int)) then
    (match idx v n1 with
      | some y6 => J f57t5 (f57s1 (n1) (v) (y6) (0 : Int) (l2) (y6) (l3) (n4) (l5))
      | none => none)
  else kk (V.tuple []) ([Ob.loop 12006 [(1, V.ref 2 0 0 0), (2, V.ref 3 0 0 0), (3, V.ref 4 0 0 0), (4, V.ref 5 0 0 0), (6, V.ref 6 0 0 0)] 0, Ob.var [V.sl rEvent l2], Ob.var [V.sl rEvent l3], Ob.var [V.nilsl], Ob.var [V.int IntKind.i64 n4], Ob.var [V.sl rIv l5], Ob.var [V.nilsl]])) := by kernel_rfl
theorem f57_1 {R : Type} (J : List Item → St → Option R) (kk : V → List Ob → Option R) (n1 : Int) (v : List (Int × List (Int × Int × Int) × List Bool × Int × Int × Int × Int × List Int × List UInt8)) (y6 : Int × List (Int × Int × Int) × List Bool × Int × Int × Int × Int × List Int × List UInt8) (n7 : Int) (l8 : List (Int × List (Int × Int × Int) × List Bool × Int × Int × Int × Int × List Int × List UInt8)) (x9 : Int × List (Int × Int × Int) × List Bool × Int × Int × Int × Int × List Int × List UInt8) (l10 : List (Int × List (Int × Int × Int) × List Bool × Int × Int × Int × Int × List Int × List UInt8)) (n11 : Int) (l12 : List (Int × Int)) :
  vseg ((E22 8)) f57cuts 2 J (vend ((E22 8)) 2 (fb Tryd.f57).1.results.toList false kk) 100000 true f57t5 (f57s1 n1 v y6 n7 l8 x9 l10 n11 l12) =
  (bif decide (n7 < (↑(List.length y6.snd.fst) : Int)) then
    (match idx y6.snd.fst n7 with
      | some y13 => (bif decide ((0 : Int) ≤ n1) && roundG l10 l12 n1.toNat y13 then
        J f57t5 (f57s2 (n1) (v) (y6) (IntKind.i64.wrap (n7 + (1 : Int))) (l8) (x9) (l10) (n11) (l12) ([soundOf l10 l12 n1.toNat y13]))
      else none)
      | none => none)
  else (bif decide ((Ev.pitches x9).length < (4611686018427387904 : Nat)) then
      J f57t2 (f57s3 (v) (IntKind.i64.wrap (n1 + (1 : Int))) (l8) (Ev.tm x9) (l10) (n11) (l12))
    else none)) := by kernel_rfl
theorem f57_2 {R : Type} (J : List Item → St → Option R) (kk : V → List Ob → Option R) (n1 : Int) (v : List (Int × List (Int × Int × Int) × List Bool × Int × Int × Int × Int × List Int × List UInt8)) (y6 : Int × List (Int × Int × Int) × List Bool × Int × Int × Int × Int × List Int × List UInt8) (n14 : Int) (l15 : List (Int × List (Int × Int × Int) × List Bool × Int × Int × Int × Int × List Int × List UInt8)) (x16 : Int × List (Int × Int × Int) × List Bool × Int × Int × Int × Int × List Int × List UInt8) (l17 : List (Int × List (Int × Int × Int) × List Bool × Int × Int × Int × Int × List Int × List UInt8)) (n18 : Int) (l19 : List (Int × Int)) (l20 : List (Int × Int × Int × Int × Int × Int × Int × List Int)) :
  vseg ((E22 8)) f57cuts 2 J (vend ((E22 8)) 2 (fb Tryd.f57).1.results.toList false kk) 100000 true f57t5 (f57s2 n1 v y6 n14 l15 x16 l17 n18 l19 l20) =
  (bif decide (n14 < (↑(List.length y6.snd.fst) : Int)) then
    (match idx y6.snd.fst n14 with
      | some y27 => (bif decide ((0 : Int) ≤ n1) && (decide (l20.length ≤ (1000000 : Nat)) && roundG l17 l19 n1.toNat y27) then
        J f57t5 (f57s2 (n1) (v) (y6) (IntKind.i64.wrap (n14 + (1 : Int))) (l15) (x16) (l17) (n18) (l19) (l20 ++ [soundOf l17 l19 n1.toNat y27]))
      else none)
      | none => none)
  else (bif decide ((Ev.pitches x16).length < (4611686018427387904 : Nat)) then
      J f57t2 (f57s4 (v) (IntKind.i64.wrap (n1 + (1 : Int))) (l15) (Ev.tm x16) (l17) (n18) (l19) (l20))
    else none)) := by kernel_rfl
theorem f57_3 {R : Type} (J : List Item → St → Option R) (kk : V → List Ob → Option R) (v : List (Int × List (Int × Int × Int) × List Bool × Int × Int × Int × Int × List Int × List UInt8)) (n21 : Int) (l22 : List (Int × List (Int × Int × Int) × List Bool × Int × Int × Int × Int × List Int × List UInt8)) (e23 : List ((Int × Int × Int) × Bool)) (l24 : List (Int × List (Int × Int × Int) × List Bool × Int × Int × Int × Int × List Int × List UInt8)) (n25 : Int) (l26 : List (Int × Int)) :
  vseg ((E22 8)) f57cuts 2 J (vend ((E22 8)) 2 (fb Tryd.f57).1.results.toList false kk) 100000 true f57t2 (f57s3 v n21 l22 e23 l24 n25 l26) =
  (bif decide (n21 < (↑v.length : Int)) then
    (match idx v n21 with
      | some y35 => J f57t5 (f57s5 (n21) (v) (y35) (0 : Int) (l22) (e23) (y35) (l24) (n25) (l26))
      | none => none)
  else kk (V.tuple []) ([Ob.loop 12006 [(1, V.ref 2 0 0 0), (2, V.ref 3 0 0 0), (3, V.ref 4 0 0 0), (4, V.ref 5 0 0 0), (6, V.ref 6 0 0 0)] 0, Ob.var [V.sl rEvent l22], Ob.var [V.sl rEvent l24], Ob.var [V.nilsl], Ob.var [V.int IntKind.i64 n25], Ob.var [V.sl rIv l26], Ob.var [V.nilsl]])) := by kernel_rfl
theorem f57_4 {R : Type} (J : List Item → St → Option R) (kk : V → List Ob → Option R) (v : List (Int × List (Int × Int × Int) × List Bool × Int × Int × Int × Int × List Int × List UInt8)) (n28 : Int) (l29 : List (Int × List (Int × Int × Int) × List Bool × Int × Int × Int × Int × List Int × List UInt8)) (e30 : List ((Int × Int × Int) × Bool)) (l31 : List (Int × List (Int × Int × Int) × List Bool × Int × Int × Int × Int × List Int × List UInt8)) (n32 : Int) (l33 : List (Int × Int)) (l34 : List (Int × Int × Int × Int × Int × Int × Int × List Int)) :
  vseg ((E22 8)) f57cuts 2 J (vend ((E22 8)) 2 (fb Tryd.f57).1.results.toList false kk) 100000 true f57t2 (f57s4 v n28 l29 e30 l31 n32 l33 l34) =
  (bif decide (n28 < (↑v.length : Int)) then
    (match idx v n28 with
      | some y43 => J f57t5 (f57s6 (n28) (v) (y43) (0 : Int) (l29) (e30) (y43) (l31) (n32) (l33) (l34))
      | none => none)
  else kk (V.tuple []) ([Ob.loop 12006 [(1, V.ref 2 0 0 0), (2, V.ref 3 0 0 0), (3, V.ref 4 0 0 0), (4, V.ref 5 0 0 0), (6, V.ref 6 0 0 0)] 0, Ob.var [V.sl rEvent l29], Ob.var [V.sl rEvent l31], Ob.var [V.nilsl], Ob.var [V.int IntKind.i64 n32], Ob.var [V.sl rIv l33], Ob.var [V.own 7], Ob.arr rSound l34 false])) := by kernel_rfl
theorem f57_5 {R : Type} (J : List Item → St → Option R) (kk : V → List Ob → Option R) (n21 : Int) (v : List (Int × List (Int × Int × Int) × List Bool × Int × Int × Int × Int × List Int × List UInt8)) (y35 : Int × List (Int × Int × Int) × List Bool × Int × Int × Int × Int × List Int × List UInt8) (n36 : Int) (l37 : List (Int × List (Int × Int × Int) × List Bool × Int × Int × Int × Int × List Int × List UInt8)) (e38 : List ((Int × Int × Int) × Bool)) (x39 : Int × List (Int × Int × Int) × List Bool × Int × Int × Int × Int × List Int × List UInt8) (l40 : List (Int × List (Int × Int × Int) × List Bool × Int × Int × Int × Int × List Int × List UInt8)) (n41 : Int) (l42 : List (Int × Int)) :
  vseg ((E22 8)) f57cuts 2 J (vend ((E22 8)) 2 (fb Tryd.f57).1.results.toList false kk) 100000 true f57t5 (f57s5 n21 v y35 n36 l37 e38 x39 l40 n41 l42) =
  (bif decide (n36 < (↑(List.length y35.snd.fst) : Int)) then
    (match idx y35.snd.fst n36 with
      | some y52 => (bif !(findKey rPitch.beq y52 e38).getD false then
        (bif decide ((0 : Int) ≤ n21) && roundG l40 l42 n21.toNat y52 then
          J f57t5 (f57s7 (n21) (v) (y35) (IntKind.i64.wrap (n36 + (1 : Int))) (l37) (e38) (x39) (l40) (n41) (l42) ([soundOf l40 l42 n21.toNat y52]))
        else none)
      else J f57t5 (f57s5 (n21) (v) (y35) (IntKind.i64.wrap (n36 + (1 : Int))) (l37) (e38) (x39) (l40) (n41) (l42)))
      | none => none)
  else (bif decide ((Ev.pitches x39).length < (4611686018427387904 : Nat)) then
      J f57t2 (f57s3 (v) (IntKind.i64.wrap (n21 + (1 : Int))) (l37) (Ev.tm x39) (l40) (n41) (l42))
    else none)) := by kernel_rfl
theorem f57_6 {R : Type} (J : List Item → St → Option R) (kk : V → List Ob → Option R) (n28 : Int) (v : List (Int × List (Int × Int × Int) × List Bool × Int × Int × Int × Int × List Int × List UInt8)) (y43 : Int × List (Int × Int × Int) × List Bool × Int × Int × Int × Int × List Int × List UInt8) (n44 : Int) (l45 : List (Int × List (Int × Int × Int) × List Bool × Int × Int × Int × Int × List Int × List UInt8)) (e46 : List ((Int × Int × Int) × Bool)) (x47 : Int × List (Int × Int × Int) × List Bool × Int × Int × Int × Int × List Int × List UInt8) (l48 : List (Int × List (Int × Int × Int) × List Bool × Int × Int × Int × Int × List Int × List UInt8)) (n49 : Int) (l50 : List (Int × Int)) (l51 : List (Int × Int × Int × Int × Int × Int × Int × List Int)) :
  vseg ((E22 8)) f57cuts 2 J (vend ((E22 8)) 2 (fb Tryd.f57).1.results.toList false kk) 100000 true f57t5 (f57s6 n28 v y43 n44 l45 e46 x47 l48 n49 l50 l51) =
  (bif decide (n44 < (↑(List.length y43.snd.fst) : Int)) then
    (match idx y43.snd.fst n44 with
      | some y61 => (bif !(findKey rPitch.beq y61 e46).getD false then
        (bif decide ((0 : Int) ≤ n28) && (decide (l51.length ≤ (1000000 : Nat)) && roundG l48 l50 n28.toNat y61) then
          J f57t5 (f57s6 (n28) (v) (y43) (IntKind.i64.wrap (n44 + (1 : Int))) (l45) (e46) (x47) (l48) (n49) (l50) (l51 ++ [soundOf l48 l50 n28.toNat y61]))
        else none)
      else J f57t5 (f57s6 (n28) (v) (y43) (IntKind.i64.wrap (n44 + (1 : Int))) (l45) (e46) (x47) (l48) (n49) (l50) (l51)))
      | none => none)
  else (bif decide ((Ev.pitches x47).length < (4611686018427387904 : Nat)) then
      J f57t2 (f57s4 (v) (IntKind.i64.wrap (n28 + (1 : Int))) (l45) (Ev.tm x47) (l48) (n49) (l50) (l51))
    else none)) := by kernel_rfl
theorem f57_7 {R : Type} (J : List Item → St → Option R) (kk : V → List Ob → Option R) (n21 : Int) (v : List (Int × List (Int × Int × Int) × List Bool × Int × Int × Int × Int × List Int × List UInt8)) (y35 : Int × List (Int × Int × Int) × List Bool × Int × Int × Int × Int × List Int × List UInt8) (n53 : Int) (l54 : List (Int × List (Int × Int × Int) × List Bool × Int × Int × Int × Int × List Int × List UInt8)) (e55 : List ((Int × Int × Int) × Bool)) (x56 : Int × List (Int × Int × Int) × List Bool × Int × Int × Int × Int × List Int × List UInt8) (l57 : List (Int × List (Int × Int × Int) × List Bool × Int × Int × Int × Int × List Int × List UInt8)) (n58 : Int) (l59 : List (Int × Int)) (l60 : List (Int × Int × Int × Int × Int × Int × Int × List Int)) :
  vseg ((E22 8)) f57cuts 2 J (vend ((E22 8)) 2 (fb Tryd.f57).1.results.toList false kk) 100000 true f57t5 (f57s7 n21 v y35 n53 l54 e55 x56 l57 n58 l59 l60) =
  (bif decide (n53 < (↑(List.length y35.snd.fst) : Int)) then
    (match idx y35.snd.fst n53 with
      | some y62 => (bif !(findKey rPitch.beq y62 e55).getD false then
        (bif decide ((0 : Int) ≤ n21) && (decide (l60.length ≤ (1000000 : Nat)) && roundG l57 l59 n21.toNat y62) then
          J f57t5 (f57s7 (n21) (v) (y35) (IntKind.i64.wrap (n53 + (1 : Int))) (l54) (e55) (x56) (l57) (n58) (l59) (l60 ++ [soundOf l57 l59 n21.toNat y62]))
        else none)
      else J f57t5 (f57s7 (n21) (v) (y35) (IntKind.i64.wrap (n53 + (1 : Int))) (l54) (e55) (x56) (l57) (n58) (l59) (l60)))
      | none => none)
  else (bif decide ((Ev.pitches x56).length < (4611686018427387904 : Nat)) then
      J f57t2 (f57s4 (v) (IntKind.i64.wrap (n21 + (1 : Int))) (l54) (Ev.tm x56) (l57) (n58) (l59) (l60))
    else none)) := by kernel_rfl

end Vm.S07

open Go Go.Proofs
namespace Vm.S07
section
variable (l : Vo) (n : Int) (ss : List (Int × Int))
abbrev Led := Option (List (Pt × Bool))
abbrev Out := Option (List So)
def ledP : Led → Pt → Bool
  | none, _ => false
  | some es, p => (findKey rPitch.beq p es).getD false
noncomputable def s2f (led : Led) (o : Out) (i : Int) : St := match led, o with
  | none, _ => f57s0 l i l l n ss
  | some e, none => f57s3 l i l e l n ss
  | some e, some o => f57s4 l i l e l n ss o
noncomputable def s5f (led : Led) (o : Out) (i : Int) (y : Ev) (m : Int) : St := match led, o with
  | none, none => f57s1 i l y m l y l n ss
  | none, some o => f57s2 i l y m l y l n ss o
  | some e, none => f57s5 i l y m l e y l n ss
  | some e, some o => f57s6 i l y m l e y l n ss o
abbrev bFr : List (Nat × Nat) := [(1, 2), (2, 3), (3, 4), (4, 5), (6, 6)]
def bOs : Out → List Ob
  | none => [.loop 12006 (refFr bFr) 0, .var [.sl rEvent l], .var [.sl rEvent l], .var [.nilsl], .var [.int .i64 n], .var [.sl rIv ss], .var [.nilsl]]
  | some o => [.loop 12006 (refFr bFr) 0, .var [.sl rEvent l], .var [.sl rEvent l], .var [.nilsl], .var [.int .i64 n], .var [.sl rIv ss], .var [.own 7], .arr rSound o false]
noncomputable abbrev f57F {R : Type} (kk : V → List Ob → Option R) (N : Nat) : List Item → St → Option R := vrun (E22 8) f57cuts 2 100000 (vend (E22 8) 2 (fb Tryd.f57).1.results.toList false kk) N
variable {l n ss}
theorem s2_step {R : Type} (kk : V → List Ob → Option R) (led : Led) (o : Out) (hlo : led = none → o = none) (N i : Nat) (hi : i < l.length) :
    f57F kk (N + 1) f57t2 (s2f l n ss led o i) = f57F kk N f57t5 (s5f l n ss led o i l[i] 0) := by
  rw [f57F, vrun_succ]
  match led, o, hlo with
  | none, none, _ =>
    simp only [s2f, s5f]
    rw [f57_0, bif_pos (by exact decide_eq_true (by omega)), idx_nat, List.getElem?_eq_getElem hi]
  | none, some o, h => exact absurd (h rfl) (by simp)
  | some e, none, _ =>
    simp only [s2f, s5f]
    rw [f57_3, bif_pos (by exact decide_eq_true (by omega)), idx_nat, List.getElem?_eq_getElem hi]
  | some e, some o, _ =>
    simp only [s2f, s5f]
    rw [f57_4, bif_pos (by exact decide_eq_true (by omega)), idx_nat, List.getElem?_eq_getElem hi]
theorem s2_end {R : Type} (kk : V → List Ob → Option R) (led : Led) (o : Out) (hlo : led = none → o = none) (N i : Nat) (hi : ¬ i < l.length) :
    f57F kk (N + 1) f57t2 (s2f l n ss led o i) = kk (.tuple []) (bOs l n ss o) := by
  rw [f57F, vrun_succ]
  match led, o, hlo with
  | none, none, _ =>
    simp only [s2f]
    rw [f57_0, bif_neg (by exact decide_eq_false (by omega))]
    rfl
  | none, some o, h => exact absurd (h rfl) (by simp)
  | some e, none, _ =>
    simp only [s2f]
    rw [f57_3, bif_neg (by exact decide_eq_false (by omega))]
    rfl
  | some e, some o, _ =>
    simp only [s2f]
    rw [f57_4, bif_neg (by exact decide_eq_false (by omega))]
    rfl
theorem s5_step {R : Type} (kk : V → List Ob → Option R) (led : Led) (o : Out) (N i m : Nat) (y : Ev) (hm : m < y.pitches.length) (hb : y.pitches.length ≤ 1000) (hg : roundG l ss i y.pitches[m] = true) (ho : (o.getD []).length ≤ 1000000) :
    f57F kk (N + 1) f57t5 (s5f l n ss led o i y m) = f57F kk N f57t5 (s5f l n ss led (if ledP led y.pitches[m] then o else some (o.getD [] ++ [soundOf l ss i y.pitches[m]])) i y ((m + 1 : Nat) : Int)) := by
  rw [f57F, vrun_succ]
  have hp : y.snd.fst = y.pitches := rfl
  have h0 : decide ((0 : Int) ≤ (i : Int)) = true := decide_eq_true (by omega)
  match led, o, ho with
  | none, none, ho =>
    simp only [s5f]
    rw [f57_1, hp, bif_pos (by exact decide_eq_true (by omega)), idx_nat, List.getElem?_eq_getElem hm, wrap_succ (by omega)]
    dsimp only
    rw [h0, show ((i : Int).toNat) = i from rfl, hg, Bool.and_self, cond_true]
    rfl
  | none, some o, ho =>
    simp only [s5f]
    rw [f57_2, hp, bif_pos (by exact decide_eq_true (by omega)), idx_nat, List.getElem?_eq_getElem hm, wrap_succ (by omega)]
    dsimp only
    rw [h0, show ((i : Int).toNat) = i from rfl, hg, decide_eq_true (show o.length ≤ 1000000 from ho), Bool.and_self, Bool.and_self, cond_true]
    rfl
  | some e, none, ho =>
    simp only [s5f]
    rw [f57_5, hp, bif_pos (by exact decide_eq_true (by omega)), idx_nat, List.getElem?_eq_getElem hm, wrap_succ (by omega)]
    dsimp only
    rw [h0, show ((i : Int).toNat) = i from rfl, hg, Bool.and_self, cond_true]
    show (bif !(ledP (some e) y.pitches[m]) then _ else _) = _
    by_cases hk : ledP (some e) y.pitches[m] = true
    · rw [if_pos hk, hk]; rfl
    · rw [if_neg hk, Bool.eq_false_iff.2 hk]; rfl
  | some e, some o, ho =>
    simp only [s5f]
    rw [f57_6, hp, bif_pos (by exact decide_eq_true (by omega)), idx_nat, List.getElem?_eq_getElem hm, wrap_succ (by omega)]
    dsimp only
    rw [h0, show ((i : Int).toNat) = i from rfl, hg, decide_eq_true (show o.length ≤ 1000000 from ho), Bool.and_self, Bool.and_self, cond_true]
    show (bif !(ledP (some e) y.pitches[m]) then _ else _) = _
    by_cases hk : ledP (some e) y.pitches[m] = true
    · rw [if_pos hk, hk]; rfl
    · rw [if_neg hk, Bool.eq_false_iff.2 hk]; rfl
theorem s5_end {R : Type} (kk : V → List Ob → Option R) (led : Led) (o : Out) (N i m : Nat) (y : Ev) (hi : i < 1000) (hm : ¬ m < y.pitches.length) (hb : y.pitches.length ≤ 1000) :
    f57F kk (N + 1) f57t5 (s5f l n ss led o i y m) = f57F kk N f57t2 (s2f l n ss (some y.tm) o ((i + 1 : Nat) : Int)) := by
  rw [f57F, vrun_succ]
  have hp : y.snd.fst = y.pitches := rfl
  match led, o with
  | none, none =>
    simp only [s5f, s2f]
    rw [f57_1, hp, bif_neg (by exact decide_eq_false (by omega)), bif_pos (by exact decide_eq_true (by omega)), wrap_succ (by omega)]
  | none, some o =>
    simp only [s5f, s2f]
    rw [f57_2, hp, bif_neg (by exact decide_eq_false (by omega)), bif_pos (by exact decide_eq_true (by omega)), wrap_succ (by omega)]
  | some e, none =>
    simp only [s5f, s2f]
    rw [f57_5, hp, bif_neg (by exact decide_eq_false (by omega)), bif_pos (by exact decide_eq_true (by omega)), wrap_succ (by omega)]
  | some e, some o =>
    simp only [s5f, s2f]
    rw [f57_6, hp, bif_neg (by exact decide_eq_false (by omega)), bif_pos (by exact decide_eq_true (by omega)), wrap_succ (by omega)]
theorem s5_all {R : Type} (kk : V → List Ob → Option R) (led : Led) (N i : Nat) (y : Ev) (hi : i < 1000) (hb : y.pitches.length ≤ 1000) (hg : y.pitches.all (roundG l ss i) = true) : ∀ (d m : Nat) (o : Out), m + d = y.pitches.length → (o.getD []).length + d ≤ 1000000 →
    f57F kk (N + d + 1) f57t5 (s5f l n ss led o i y m) = f57F kk N f57t2 (s2f l n ss (some y.tm) (addO o (begE (soundOf l ss i) (ledP led) (y.pitches.drop m))) ((i + 1 : Nat) : Int)) := by
  intro d
  induction d with
  | zero =>
    intro m o hm ho
    rw [List.drop_eq_nil_of_le (by omega)]
    exact s5_end kk led o N i m y hi (by omega) hb
  | succ d ih =>
    intro m o hm ho
    have hlt : m < y.pitches.length := by omega
    rw [show N + (d + 1) + 1 = (N + d + 1) + 1 by omega, s5_step kk led o (N + d + 1) i m y hlt hb (List.all_eq_true.1 hg _ (List.getElem_mem hlt)) (by omega), List.drop_eq_getElem_cons hlt, begE]
    cases hl : ledP led y.pitches[m] with
    | true =>
      rw [if_pos rfl, if_pos rfl]
      exact ih (m + 1) o (by omega) (by omega)
    | false =>
      rw [if_neg (by decide), if_neg (by decide), addO_cons]
      exact ih (m + 1) _ (by omega) (by simp; omega)
theorem s2_all {R : Type} (kk : V → List Ob → Option R) (h64 : l.length ≤ 64) (hb : ∀ e ∈ l, e.pitches.length ≤ 1000) (hg : soundsG l ss = true) : ∀ (d i : Nat) (led : Led) (o : Out), i + d = l.length → (led = none → o = none) → (o.getD []).length ≤ i * 1000 →
    ∃ N, f57F kk N f57t2 (s2f l n ss led o i) = kk (.tuple []) (bOs l n ss (addO o (begAll (soundOf l ss) i (ledP led) (l.drop i)))) := by
  intro d
  induction d with
  | zero =>
    intro i led o hi hlo ho
    refine ⟨0 + 1, ?_⟩
    rw [s2_end kk led o hlo 0 i (by omega), List.drop_eq_nil_of_le (by omega)]
    rfl
  | succ d ih =>
    intro i led o hi hlo ho
    have hlt : i < l.length := by omega
    have hbi := hb _ (List.getElem_mem hlt)
    have hgi : l[i].pitches.all (roundG l ss i) = true := by
      have := List.all_eq_true.1 hg i (List.mem_range.2 hlt)
      rw [List.getElem?_eq_getElem hlt] at this
      exact this
    have hlen := begE_len (soundOf l ss i) (ledP led) l[i].pitches
    obtain ⟨N, hN⟩ := ih (i + 1) (some l[i].tm) (addO o (begE (soundOf l ss i) (ledP led) l[i].pitches)) (by omega) (by intro h; cases h) (by rw [addO_len]; omega)
    refine ⟨N + l[i].pitches.length + 1 + 1, ?_⟩
    rw [s2_step kk led o hlo _ i hlt, show (0 : Int) = ((0 : Nat) : Int) from rfl, s5_all kk led N i l[i] (by omega) hbi hgi l[i].pitches.length 0 o (by omega) (by omega), List.drop_zero, hN, List.drop_eq_getElem_cons hlt, begAll, addO_append]
    rw [show ledP (some l[i].tm) = fun p => l[i].tied p from funext fun p => Ev.tm_get _ _]
end
theorem f57_c (v l : Vo) (n : Int) (ss : List (Int × Int)) (h : begunG v l ss = true) : Contract Tryd.prog gls 57 [.yld 0, .ref 1 0 0 0] [.loop 12006 (refFr bFr) 0, .var [.sl rEvent v], .var [.sl rEvent l], .var [.nilsl], .var [.int .i64 n], .var [.sl rIv ss], .var [.nilsl]] (.tuple []) (bOs l n ss (addO none (begS l ss))) := by
  simp only [begunG, Bool.and_eq_true, Vo.tiny, decide_eq_true_eq] at h
  obtain ⟨h1, ⟨h2, h3⟩, h4⟩ := h
  have := (voSame_iff v l).1 h1
  subst this
  obtain ⟨N, hN⟩ := s2_all (l := v) (n := n) (ss := ss) (fun v os => some (v, os)) h2 (fun e he => by
    have := List.all_eq_true.1 h3 e he
    simp only [Ev.tiny, Bool.and_eq_true, decide_eq_true_eq] at this
    exact this.1) h4 v.length 0 none none (by omega) (fun _ => rfl) (by simp)
  have hn : vrun (E22 8) f57cuts (rootsN [.yld 0, .ref 1 0 0 0]) 100000 (vend (E22 8) (rootsN [.yld 0, .ref 1 0 0 0]) (fb Tryd.f57).1.results.toList false fun v os => some (v, os)) (N + 1) [.code (fb Tryd.f57).2] (start [.yld 0, .ref 1 0 0 0] [.loop 12006 (refFr bFr) 0, .var [.sl rEvent v], .var [.sl rEvent v], .var [.nilsl], .var [.int .i64 n], .var [.sl rIv ss], .var [.nilsl]]) = some (.tuple [], bOs v n ss (addO none (begS v ss))) := by
    rw [vrun_succ]
    refine (f57_go (vrun (E22 8) f57cuts 2 100000 (vend (E22 8) 2 (fb Tryd.f57).1.results.toList false fun v os => some (v, os)) N) _ v v ss n).trans ?_
    exact hN
  have := contract_of (P := Tryd.prog) (E := E22 8) mixed (ready22 8) (f := 57) (fn := (fb Tryd.f57).1) (c := (fb Tryd.f57).2) Tryd.func57 (by kernel_rfl) (by kernel_rfl) (by decide) (by rw [glE22]; exact rfOk_no (by kernel_rfl)) hn (show 2 ≤ _ from Nat.succ_le_succ (Nat.succ_le_succ (Nat.zero_le _)))
  rw [glE22] at this
  exact this
/-- reads what begun's loop is handed -/
def rdBOs : List Ob → Option (Vo × Vo × List (Int × Int) × Int)
  | [lo, .var [a'], .var [a], .var [.nilsl], .var [n], .var [b], .var [.nilsl]] => bif loopX 12006 bFr lo then (match slX rEvent a', slX rEvent a, intX n, slX rIv b with
    | some v, some l, some n, some ss => some (v, l, ss, n)
    | _, _, _, _ => none) else none
  | _ => none
theorem rdBOs_eq {os : List Ob} {v l : Vo} {ss : List (Int × Int)} {n : Int} (h : rdBOs os = some (v, l, ss, n)) : os = [.loop 12006 (refFr bFr) 0, .var [.sl rEvent v], .var [.sl rEvent l], .var [.nilsl], .var [.int .i64 n], .var [.sl rIv ss], .var [.nilsl]] := by
  unfold rdBOs at h
  split at h
  · rename_i lo a' a n b
    cases hl : loopX 12006 bFr lo with
    | false => rw [hl] at h; cases h
    | true =>
      rw [hl, cond_true] at h
      split at h
      · rename_i h0 h1 h2 h3
        cases h
        rw [loopX_eq hl, slX_eq h0, slX_eq h1, intX_eq h2, slX_eq h3]
      · cases h
  · cases h
noncomputable def f57e : Entry Tryd.prog gls where
  f := 57
  g := fun _ _ => none
  says := fun _ _ _ _ _ h => by cases h
  br := fun args os => match args, rdBOs os with
    | [.yld 0, .ref 1 0 0 0], some (v, l, ss, n) => some (begunG v l ss, (begS l ss).isEmpty, (.tuple [], bOs l n ss none), (.tuple [], bOs l n ss (some (begS l ss))))
    | _, _ => none
  brSays := fun args os c b p q h hc => by
    subst hc
    split at h
    · rename_i v l ss n hz
      have := rdBOs_eq hz
      subst this
      simp only [Option.some.injEq, Prod.mk.injEq] at h
      obtain ⟨h1, rfl, rfl, rfl⟩ := h
      have := f57_c v l n ss h1
      cases hs : begS l ss with
      | nil => rw [hs] at this; exact this
      | cons x r => rw [hs] at this; exact this
    · cases h
noncomputable def es23 : List (Entry Tryd.prog gls) := [f57e] ++ es22
noncomputable def E23 (n : Nat) : Env := interp fns (look tys) gls mvs (tabOf es23) 100000 n
theorem ready23 (n : Nat) : Ready Tryd.prog (E23 n) := ready_of mixed fnsAll tysOk rfsOk n
theorem glE23 (n : Nat) : (E23 n).gl = gls := by cases n <;> rfl
end Vm.S07

open Go Go.Proofs
namespace Vm.S07
noncomputable abbrev f12cuts : Cuts := look [(9, [1, 2, 3, 4, 6, 7, 8, 9]), (1000006, [12006, 1, 2, 3, 4, 6])]
theorem f12_go {R : Type} (J : List Item → St → Option R) (kk : V → List Ob → Option R) (l : List (Int × List (Int × Int × Int) × List Bool × Int × Int × Int × Int × List Int × List UInt8)) :
  vseg ((E23 8)) f12cuts 0 J (vend ((E23 8)) 0 (fb Tryd.f12).1.results.toList false kk) 100000 true [.code (fb Tryd.f12).2] (start ([enc true (Ks.cons (K.sl rEvent) Ks.nil) l]) ([])) =
  (bif Vo.ok l then
    (bif !decide ((Vo.sums l).snd = (0 : Int)) then
      kk (V.tuple [V.nilsl, V.int IntKind.i64 (Vo.sums l).snd]) ([])
    else (bif begunG l l (Vo.sums l).fst then
        (bif (begS l (Vo.sums l).fst).isEmpty then
          kk (V.tuple [V.nilsl, V.int IntKind.i64 (0 : Int)]) ([])
        else kk (V.tuple [V.sl rSound (begS l (Vo.sums l).fst), V.int IntKind.i64 (0 : Int)]) ([]))
      else none))
  else none) := by kernel_rfl

end Vm.S07

open Go Go.Proofs
namespace Vm.S07
abbrev soN (x : List So × Int) : V := .tuple [if x.1 = [] then .nilsl else .sl rSound x.1, .int .i64 x.2]
theorem f12_run {R : Type} (kk : V → List Ob → Option R) (l : Vo) (h : Vo.soundsOk l = true) :
    vrun (E23 8) f12cuts 0 100000 (vend (E23 8) 0 (fb Tryd.f12).1.results.toList false kk) 1 [.code (fb Tryd.f12).2] (start [enc true rVoice l] []) = kk (soN (Vo.sounds l)) [] := by
  unfold Vo.soundsOk at h
  rw [Bool.and_eq_true] at h
  rw [vrun_succ]
  refine (f12_go _ kk l).trans ?_
  rw [h.1]
  unfold Vo.sounds
  by_cases h1 : (Vo.sums l).2 = 0
  · rw [if_pos h1] at h
    rw [decide_eq_true h1, h.2, if_pos h1]
    cases hs : begS l (Vo.sums l).1 with
    | nil => rfl
    | cons x r => simp only [soN, if_neg (List.cons_ne_nil x r)]; rfl
  · rw [decide_eq_false h1, if_neg h1]
    rfl
theorem soN_canon (x : List So × Int) : canon2 false (.cons (.sl rSound) .nil) (soN x) = some (x.1, .int .i64 x.2) := by
  obtain ⟨a, b⟩ := x
  cases a with
  | nil => rfl
  | cons y r => simp only [soN, if_neg (List.cons_ne_nil y r)]; rfl
theorem rfl12 : rfList f12cuts (fb Tryd.f12).1.ntmps (fb Tryd.f12).2 = [(12006, rfOf (fb Tryd.f12) 6)] := by kernel_rfl
noncomputable def f12e : Entry Tryd.prog gls := .one 12 true rVoice (by intro h; cases h) (fun (x : List Ev) => (Vo.soundsOk x, .tuple [.sl rSound (Vo.sounds x).1, .int .i64 (Vo.sounds x).2])) fun x h => by
  have hn := f12_run (fun v os => some (v, os)) x h
  exact Contract.canon2 (a := false) (contract_run (fn := (fb Tryd.f12).1) (c := (fb Tryd.f12).2) mixed (ready23 8) (glE23 8) Tryd.func12 (by kernel_rfl) rfl rfl (by kernel_rfl) hn (hrf := rfOk_one rfl12 rf12)) (by intro _; rfl) (soN_canon _)
noncomputable def es24 : List (Entry Tryd.prog gls) := [f12e] ++ es23
noncomputable def E24 (n : Nat) : Env := interp fns (look tys) gls mvs (tabOf es24) 100000 n
theorem ready24 (n : Nat) : Ready Tryd.prog (E24 n) := ready_of mixed fnsAll tysOk rfsOk n
theorem glE24 (n : Nat) : (E24 n).gl = gls := by cases n <;> rfl
end Vm.S07

