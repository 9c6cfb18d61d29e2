/- Ratios' sums, what is tied, which voices are right, where events begin, meters, as runs of the value machine. -/
import Derived.Test.YtgkanaehhjkieaaDoorLawC
import Derived.Test.YtgkanaehhjkieaaDoorVmE
import Derived.KernelRfl
import Derived.Test.YtgkanaehhjkieaaDoorWords
set_option maxRecDepth 100000
open Go Go.Proofs
namespace Vm.S07
noncomputable abbrev f35cuts : Cuts := fun _ => none
theorem f35_go {R : Type} (J : List Item → St → Option R) (kk : V → List Ob → Option R) (a : Int × Int) :
  vseg (E11 8) f35cuts 0 J (vend (E11 8) 0 (fb Tryd.f35).1.results.toList false kk) 100000 true [.code (fb Tryd.f35).2] (start ([enc true rIv a]) ([])) =
  (bif decide ((1 : Int) ≤ a.snd) then
    (bif i64B a.fst then
      (bif i64B a.snd then
        (bif decide ((if absI a.snd > absI a.fst then absI a.snd else absI a.fst) ≤ (1000000000 : Int)) then
          (bif i64B a.fst then
            (bif i64B a.snd then
              kk (V.bool (decide (gcdI (absI a.fst) (absI a.snd) = (1 : Int)))) ([])
            else none)
          else none)
        else kk (V.bool false) ([]))
      else none)
    else none)
  else kk (V.bool false) ([])) := by kernel_rfl

end Vm.S07

open Go Go.Proofs
namespace Vm.S07
theorem f35_run {R : Type} (kk : V → List Ob → Option R) (a : Int × Int) (h : Rt.i64 a = true) :
    vrun (E11 8) f35cuts 0 100000 (vend (E11 8) 0 (fb Tryd.f35).1.results.toList false kk) 1 [.code (fb Tryd.f35).2] (start [enc true rIv a] []) = kk (.bool (Rt.right a)) [] := by
  rw [vrun_succ, f35_go]
  simp only [Rt.i64, Bool.and_eq_true] at h
  rw [h.1, h.2]
  simp only [Rt.right, cond_true]
  by_cases h1 : 1 ≤ a.2
  · rw [bif_pos (decide_eq_true h1), decide_eq_true h1, Bool.true_and]
    have e2 : absI a.2 = a.2 := by simp only [absI]; omega
    by_cases h2 : (if absI a.2 > absI a.1 then absI a.2 else absI a.1) ≤ 1000000000
    · rw [bif_pos (decide_eq_true h2)]
      have : absI a.1 ≤ 1000000000 ∧ a.2 ≤ 1000000000 := by split at h2 <;> omega
      rw [decide_eq_true this.1, decide_eq_true this.2, Bool.true_and, Bool.true_and]
    · rw [bif_neg (decide_eq_false h2)]
      have : ¬ (absI a.1 ≤ 1000000000 ∧ a.2 ≤ 1000000000) := fun hh => h2 (by split <;> omega)
      by_cases h3 : absI a.1 ≤ 1000000000
      · rw [decide_eq_true h3, decide_eq_false (fun h4 => this ⟨h3, h4⟩)]; rfl
      · rw [decide_eq_false h3]; rfl
  · rw [bif_neg (decide_eq_false h1), decide_eq_false h1]; rfl
noncomputable def f35e : Entry Tryd.prog gls := .one 35 true rIv (by intro h; cases h <;> rfl) (fun (x : Int × Int) => (Rt.i64 x, .bool (Rt.right x))) fun x h => by
  have _ := h
  have hn := f35_run (fun v os => some (v, os)) x h
  exact contract_run (fn := (fb Tryd.f35).1) (c := (fb Tryd.f35).2) mixed (ready11 8) (glE11 8) Tryd.func35 (by kernel_rfl) rfl rfl (by kernel_rfl) hn

noncomputable def es12 : List (Entry Tryd.prog gls) := [f35e] ++ es11
noncomputable def E12 (n : Nat) : Env := interp fns (look tys) gls mvs (tabOf es12) 100000 n
theorem ready12 (n : Nat) : Ready Tryd.prog (E12 n) := ready_of mixed fnsAll tysOk rfsOk n
theorem glE12 (n : Nat) : (E12 n).gl = gls := by cases n <;> rfl
end Vm.S07

open Go Go.Proofs
namespace Vm.S07
noncomputable abbrev f15cuts : Cuts := fun _ => none
theorem f15_go {R : Type} (J : List Item → St → Option R) (kk : V → List Ob → Option R) (a : Int × Int) (b : Int × Int) :
  vseg (E12 8) f15cuts 0 J (vend (E12 8) 0 (fb Tryd.f15).1.results.toList false kk) 100000 true [.code (fb Tryd.f15).2] (start ([enc true rIv a, enc true rIv b]) ([])) =
  (bif Rt.i64 a then
    (bif !Rt.right a then
      kk (V.tuple [V.agg [V.int IntKind.i64 (0 : Int), V.int IntKind.i64 (0 : Int)], V.int IntKind.i64 (10 : Int)]) ([])
    else (bif Rt.i64 b then
        (bif !Rt.right b then
          kk (V.tuple [V.agg [V.int IntKind.i64 (0 : Int), V.int IntKind.i64 (0 : Int)], V.int IntKind.i64 (10 : Int)]) ([])
        else (bif i64B (IntKind.i64.wrap (IntKind.i64.wrap (a.fst * b.snd) + IntKind.i64.wrap (b.fst * a.snd))) && i64B (IntKind.i64.wrap (a.snd * b.snd)) then
            kk (V.tuple [V.agg [V.int IntKind.i64 (Rt.of (IntKind.i64.wrap (IntKind.i64.wrap (a.fst * b.snd) + IntKind.i64.wrap (b.fst * a.snd))) (IntKind.i64.wrap (a.snd * b.snd))).fst.fst, V.int IntKind.i64 (Rt.of (IntKind.i64.wrap (IntKind.i64.wrap (a.fst * b.snd) + IntKind.i64.wrap (b.fst * a.snd))) (IntKind.i64.wrap (a.snd * b.snd))).fst.snd], V.int IntKind.i64 (Rt.of (IntKind.i64.wrap (IntKind.i64.wrap (a.fst * b.snd) + IntKind.i64.wrap (b.fst * a.snd))) (IntKind.i64.wrap (a.snd * b.snd))).snd]) ([])
          else none))
      else none))
  else none) := by kernel_rfl

noncomputable abbrev f30cuts : Cuts := fun _ => none
theorem f30_go {R : Type} (J : List Item → St → Option R) (kk : V → List Ob → Option R) (a : Int × Int) (b : Int × Int) :
  vseg (E12 8) f30cuts 0 J (vend (E12 8) 0 (fb Tryd.f30).1.results.toList false kk) 100000 true [.code (fb Tryd.f30).2] (start ([enc true rIv a, enc true rIv b]) ([])) =
  (bif Rt.i64 a then
    (bif !Rt.right a then
      kk (V.tuple [V.agg [V.int IntKind.i64 (0 : Int), V.int IntKind.i64 (0 : Int)], V.int IntKind.i64 (10 : Int)]) ([])
    else (bif Rt.i64 b then
        (bif !Rt.right b then
          kk (V.tuple [V.agg [V.int IntKind.i64 (0 : Int), V.int IntKind.i64 (0 : Int)], V.int IntKind.i64 (10 : Int)]) ([])
        else (bif i64B (IntKind.i64.wrap (IntKind.i64.wrap (a.fst * b.snd) - IntKind.i64.wrap (b.fst * a.snd))) && i64B (IntKind.i64.wrap (a.snd * b.snd)) then
            kk (V.tuple [V.agg [V.int IntKind.i64 (Rt.of (IntKind.i64.wrap (IntKind.i64.wrap (a.fst * b.snd) - IntKind.i64.wrap (b.fst * a.snd))) (IntKind.i64.wrap (a.snd * b.snd))).fst.fst, V.int IntKind.i64 (Rt.of (IntKind.i64.wrap (IntKind.i64.wrap (a.fst * b.snd) - IntKind.i64.wrap (b.fst * a.snd))) (IntKind.i64.wrap (a.snd * b.snd))).fst.snd], V.int IntKind.i64 (Rt.of (IntKind.i64.wrap (IntKind.i64.wrap (a.fst * b.snd) - IntKind.i64.wrap (b.fst * a.snd))) (IntKind.i64.wrap (a.snd * b.snd))).snd]) ([])
          else none))
      else none))
  else none) := by kernel_rfl

noncomputable abbrev f16cuts : Cuts := fun _ => none
theorem f16_go {R : Type} (J : List Item → St → Option R) (kk : V → List Ob → Option R) (a : Int × Int) (b : Int × Int) :
  vseg (E12 8) f16cuts 0 J (vend (E12 8) 0 (fb Tryd.f16).1.results.toList false kk) 100000 true [.code (fb Tryd.f16).2] (start ([enc true rIv a, enc true rIv b]) ([])) =
  (bif Rt.i64 a then
    (bif !Rt.right a then
      kk (V.int IntKind.i64 (0 : Int)) ([])
    else (bif Rt.i64 b then
        (bif !Rt.right b then
          kk (V.int IntKind.i64 (0 : Int)) ([])
        else (bif decide (IntKind.i64.wrap (IntKind.i64.wrap (a.fst * b.snd) - IntKind.i64.wrap (b.fst * a.snd)) = (0 : Int)) then
            kk (V.int IntKind.i64 (0 : Int)) ([])
          else (bif decide (IntKind.i64.wrap (IntKind.i64.wrap (a.fst * b.snd) - IntKind.i64.wrap (b.fst * a.snd)) < (0 : Int)) then
              kk (V.int IntKind.i64 ((-1 : Int))) ([])
            else kk (V.int IntKind.i64 (1 : Int)) ([]))))
      else none))
  else none) := by kernel_rfl

noncomputable abbrev f61cuts : Cuts := look [(2, [0, 3, 7, 8])]
noncomputable abbrev f61t2 : List Item := itemsAt (fb Tryd.f61).2 2
def f61s0 (l : List (Int × Int × Int)) (n1 : Int) (x2 : Int × Int × Int) : St := { fr := [(0, V.sl rPitch l), (3, V.ref 0 0 0 0), (7, V.int IntKind.i64 (↑l.length : Int)), (8, V.int IntKind.i64 n1)], hp := [(0, Ob.var [V.int IntKind.i64 x2.fst, V.int IntKind.i64 x2.snd.fst, V.int IntKind.i64 x2.snd.snd])], nx := 1 }
theorem f61_go {R : Type} (J : List Item → St → Option R) (kk : V → List Ob → Option R) (l : List (Int × Int × Int)) (p : Int × Int × Int) :
  vseg (E12 8) f61cuts 0 J (vend (E12 8) 0 (fb Tryd.f61).1.results.toList false kk) 100000 true [.code (fb Tryd.f61).2] (start ([V.sl rPitch l, enc true rPitch p]) ([])) =
  J f61t2 (f61s0 (l) (0 : Int) (p)) := by kernel_rfl
theorem f61_0 {R : Type} (J : List Item → St → Option R) (kk : V → List Ob → Option R) (l : List (Int × Int × Int)) (n1 : Int) (x2 : Int × Int × Int) :
  vseg (E12 8) f61cuts 0 J (vend (E12 8) 0 (fb Tryd.f61).1.results.toList false kk) 100000 true f61t2 (f61s0 l n1 x2) =
  (bif decide (n1 < (↑l.length : Int)) then
    (match idx l n1 with
      | some y3 => (bif decide (x2.fst = y3.fst) && (decide (x2.snd.fst = y3.snd.fst) && decide (x2.snd.snd = y3.snd.snd)) then
        kk (V.int IntKind.i64 n1) ([])
      else J f61t2 (f61s0 (l) (IntKind.i64.wrap (n1 + (1 : Int))) (x2)))
      | none => none)
  else kk (V.int IntKind.i64 ((-1 : Int))) ([])) := by kernel_rfl

noncomputable abbrev f29cuts : Cuts := look [(3, [1, 3, 8, 9, 10])]
noncomputable abbrev f29t3 : List Item := itemsAt (fb Tryd.f29).2 3
def f29s0 (e : Int × List (Int × Int × Int) × List Bool × Int × Int × Int × Int × List Int × List UInt8) (n1 : Int) (x2 : Int × List (Int × Int × Int) × List Bool × Int × Int × Int × Int × List Int × List UInt8) (e3 : List ((Int × Int × Int) × Bool)) : St := { fr := [(1, V.ref 0 0 0 0), (3, V.map 1), (8, V.sl rPitch e.snd.fst), (9, V.int IntKind.i64 (↑(List.length e.snd.fst) : Int)), (10, V.int IntKind.i64 n1)], hp := [(0, Ob.var [V.int IntKind.i64 x2.fst, V.sl rPitch x2.snd.fst, V.sl rB x2.snd.snd.fst, V.int IntKind.i64 x2.snd.snd.snd.fst, V.int IntKind.i64 x2.snd.snd.snd.snd.fst, V.int IntKind.i64 x2.snd.snd.snd.snd.snd.fst, V.int IntKind.i64 x2.snd.snd.snd.snd.snd.snd.fst, V.sl rI x2.snd.snd.snd.snd.snd.snd.snd.fst, V.str x2.snd.snd.snd.snd.snd.snd.snd.snd]), (1, Ob.map (Ks.cons (K.int IntKind.i64) (Ks.cons (K.int IntKind.i64) (Ks.cons (K.int IntKind.i64) Ks.nil))) true (Ks.cons K.bool Ks.nil) false e3)], nx := 2 }
theorem f29_go {R : Type} (J : List Item → St → Option R) (kk : V → List Ob → Option R) (e : Int × List (Int × Int × Int) × List Bool × Int × Int × Int × Int × List Int × List UInt8) :
  vseg (E12 8) f29cuts 0 J (vend (E12 8) 0 (fb Tryd.f29).1.results.toList false kk) 100000 true [.code (fb Tryd.f29).2] (start ([enc true rEvent e]) ([])) =
  J f29t3 (f29s0 (e) (0 : Int) (e) ([])) := by kernel_rfl
theorem f29_0 {R : Type} (J : List Item → St → Option R) (kk : V → List Ob → Option R) (e : Int × List (Int × Int × Int) × List Bool × Int × Int × Int × Int × List Int × List UInt8) (n1 : Int) (x2 : Int × List (Int × Int × Int) × List Bool × Int × Int × Int × Int × List Int × List UInt8) (e3 : List ((Int × Int × Int) × Bool)) :
  vseg (E12 8) f29cuts 0 J (vend (E12 8) 0 (fb Tryd.f29).1.results.toList false kk) 100000 true f29t3 (f29s0 e n1 x2 e3) =
  (bif decide (n1 < (↑(List.length e.snd.fst) : Int)) then
    (match idx e.snd.fst n1 with
      | some y4 => (bif decide (n1 < (↑x2.snd.snd.fst.length : Int)) then
        (match idx x2.snd.snd.fst n1 with
          | some y5 => (bif y5 then
            J f29t3 (f29s0 (e) (IntKind.i64.wrap (n1 + (1 : Int))) (x2) (setKey (Ks.cons (K.int IntKind.i64) (Ks.cons (K.int IntKind.i64) (Ks.cons (K.int IntKind.i64) Ks.nil))).beq y4 true e3))
          else J f29t3 (f29s0 (e) (IntKind.i64.wrap (n1 + (1 : Int))) (x2) (e3)))
          | none => none)
      else J f29t3 (f29s0 (e) (IntKind.i64.wrap (n1 + (1 : Int))) (x2) (e3)))
      | none => none)
  else kk (V.map 0) ([Ob.map (Ks.cons (K.int IntKind.i64) (Ks.cons (K.int IntKind.i64) (Ks.cons (K.int IntKind.i64) Ks.nil))) true (Ks.cons K.bool Ks.nil) false e3])) := by kernel_rfl

noncomputable abbrev f56cuts : Cuts := fun _ => none
theorem f56_go {R : Type} (J : List Item → St → Option R) (kk : V → List Ob → Option R) (e : Int × List (Int × Int × Int) × List Bool × Int × Int × Int × Int × List Int × List UInt8) :
  vseg (E12 8) f56cuts 0 J (vend (E12 8) 0 (fb Tryd.f56).1.results.toList false kk) 100000 true [.code (fb Tryd.f56).2] (start ([enc true rEvent e]) ([])) =
  (bif Ev.okm e then
    (bif !Ev.right e then
      kk (V.tuple [V.agg [V.int IntKind.i64 (0 : Int), V.int IntKind.i64 (0 : Int)], V.int IntKind.i64 (60 : Int)]) ([])
    else kk (V.tuple [V.agg [V.int IntKind.i64 (Vl.len (e.snd.snd.snd.fst, e.snd.snd.snd.snd.fst, e.snd.snd.snd.snd.snd.fst, e.snd.snd.snd.snd.snd.snd.fst)).fst.fst, V.int IntKind.i64 (Vl.len (e.snd.snd.snd.fst, e.snd.snd.snd.snd.fst, e.snd.snd.snd.snd.snd.fst, e.snd.snd.snd.snd.snd.snd.fst)).fst.snd], V.int IntKind.i64 (Vl.len (e.snd.snd.snd.fst, e.snd.snd.snd.snd.fst, e.snd.snd.snd.snd.snd.fst, e.snd.snd.snd.snd.snd.snd.fst)).snd]) ([]))
  else none) := by kernel_rfl

end Vm.S07

open Go Go.Proofs
namespace Vm.S07
theorem i64B_of {n : Int} (h₁ : -9223372036854775808 ≤ n) (h₂ : n ≤ 9223372036854775807) : i64B n = true := decide_eq_true ⟨h₁, h₂⟩
theorem f15_run {R : Type} (kk : V → List Ob → Option R) (a b : Int × Int) (h : (Rt.i64 a && Rt.i64 b) = true) :
    vrun (E12 8) f15cuts 0 100000 (vend (E12 8) 0 (fb Tryd.f15).1.results.toList false kk) 1 [.code (fb Tryd.f15).2] (start [enc true rIv a, enc true rIv b] []) = kk (ratR (Rt.add a b)) [] := by
  rw [vrun_succ, f15_go]
  simp only [Bool.and_eq_true] at h
  rw [h.1, h.2]
  cases ha : Rt.right a with
  | false => simp only [Rt.add, ha]; rfl
  | true =>
    cases hb : Rt.right b with
    | false => simp only [Rt.add, ha, hb]; rfl
    | true =>
      have p1 := Rt.prod ha hb
      have p2 := Rt.prod hb ha
      have p3 := Rt.prod2 ha hb
      have ea : Rt.add a b = Rt.of (a.1 * b.2 + b.1 * a.2) (a.2 * b.2) := by simp only [Rt.add, ha, hb]; rfl
      rw [w64 (n := a.1 * b.2) (by omega) (by omega), w64 (n := b.1 * a.2) (by omega) (by omega), w64 (n := a.2 * b.2) (by omega) (by omega), w64 (n := a.1 * b.2 + b.1 * a.2) (by omega) (by omega), i64B_of (n := a.1 * b.2 + b.1 * a.2) (by omega) (by omega), i64B_of (n := a.2 * b.2) (by omega) (by omega), ea]
      rfl
theorem f30_run {R : Type} (kk : V → List Ob → Option R) (a b : Int × Int) (h : (Rt.i64 a && Rt.i64 b) = true) :
    vrun (E12 8) f30cuts 0 100000 (vend (E12 8) 0 (fb Tryd.f30).1.results.toList false kk) 1 [.code (fb Tryd.f30).2] (start [enc true rIv a, enc true rIv b] []) = kk (ratR (Rt.sub a b)) [] := by
  rw [vrun_succ, f30_go]
  simp only [Bool.and_eq_true] at h
  rw [h.1, h.2]
  cases ha : Rt.right a with
  | false => simp only [Rt.sub, ha]; rfl
  | true =>
    cases hb : Rt.right b with
    | false => simp only [Rt.sub, ha, hb]; rfl
    | true =>
      have p1 := Rt.prod ha hb
      have p2 := Rt.prod hb ha
      have p3 := Rt.prod2 ha hb
      have ea : Rt.sub a b = Rt.of (a.1 * b.2 - b.1 * a.2) (a.2 * b.2) := by simp only [Rt.sub, ha, hb]; rfl
      rw [w64 (n := a.1 * b.2) (by omega) (by omega), w64 (n := b.1 * a.2) (by omega) (by omega), w64 (n := a.2 * b.2) (by omega) (by omega), w64 (n := a.1 * b.2 - b.1 * a.2) (by omega) (by omega), i64B_of (n := a.1 * b.2 - b.1 * a.2) (by omega) (by omega), i64B_of (n := a.2 * b.2) (by omega) (by omega), ea]
      rfl
theorem f16_run {R : Type} (kk : V → List Ob → Option R) (a b : Int × Int) (h : (Rt.i64 a && Rt.i64 b) = true) :
    vrun (E12 8) f16cuts 0 100000 (vend (E12 8) 0 (fb Tryd.f16).1.results.toList false kk) 1 [.code (fb Tryd.f16).2] (start [enc true rIv a, enc true rIv b] []) = kk (.int .i64 (Rt.cmp a b)) [] := by
  rw [vrun_succ, f16_go]
  simp only [Bool.and_eq_true] at h
  rw [h.1, h.2]
  cases ha : Rt.right a with
  | false => simp only [Rt.cmp, ha]; rfl
  | true =>
    cases hb : Rt.right b with
    | false => simp only [Rt.cmp, ha, hb]; rfl
    | true =>
      have p1 := Rt.prod ha hb
      have p2 := Rt.prod hb ha
      have ea : Rt.cmp a b = sgn (a.1 * b.2) (b.1 * a.2) := by simp only [Rt.cmp, ha, hb]; rfl
      rw [w64 (n := a.1 * b.2) (by omega) (by omega), w64 (n := b.1 * a.2) (by omega) (by omega), w64 (n := a.1 * b.2 - b.1 * a.2) (by omega) (by omega), ea]
      simp only [cond_true, Bool.not_true, cond_false, sgn]
      by_cases h1 : a.1 * b.2 - b.1 * a.2 = 0
      · rw [bif_pos (decide_eq_true h1), if_neg (by omega), if_neg (by omega)]
      · rw [bif_neg (decide_eq_false h1)]
        by_cases h2 : a.1 * b.2 - b.1 * a.2 < 0
        · rw [bif_pos (decide_eq_true h2), if_pos (by omega)]
        · rw [bif_neg (decide_eq_false h2), if_neg (by omega), if_pos (by omega)]
theorem f61_loop {R : Type} (kk : V → List Ob → Option R) (l : List Pt) (p : Pt) (hb : l.length < 4611686018427387904) : ∀ (d i : Nat), i + d = l.length →
    vrun (E12 8) f61cuts 0 100000 (vend (E12 8) 0 (fb Tryd.f61).1.results.toList false kk) (d + 1) f61t2 (f61s0 l i p) = kk (.int .i64 (ptIdx p (l.drop i) i)) [] := by
  intro d
  induction d with
  | zero =>
    intro i hi
    rw [vrun_succ, f61_0, bif_neg (by exact decide_eq_false (by omega)), List.drop_eq_nil_of_le (by omega)]
    rfl
  | succ d ih =>
    intro i hi
    have hlt : i < l.length := by omega
    rw [vrun_succ, f61_0, bif_pos (by exact decide_eq_true (by omega)), wrap_succ (by omega), ih (i + 1) (by omega), idx_nat, List.getElem?_eq_getElem hlt]
    dsimp only
    rw [List.drop_eq_getElem_cons hlt]
    by_cases h : p = l[i]
    · rw [bif_pos (by rw [← h]; simp), ptIdx, if_pos h]
    · rw [bif_neg (by
        have := beqP_eq p l[i]
        rw [decide_eq_false h] at this
        exact this), ptIdx, if_neg h]
theorem f61_run {R : Type} (kk : V → List Ob → Option R) (l : List Pt) (p : Pt) (hb : decide (l.length < 4611686018427387904) = true) :
    ∃ n, vrun (E12 8) f61cuts 0 100000 (vend (E12 8) 0 (fb Tryd.f61).1.results.toList false kk) n [.code (fb Tryd.f61).2] (start [enc false (.cons (.sl rPitch) .nil) l, enc true rPitch p] []) = kk (.int .i64 (ptIdx p l 0)) [] := by
  refine ⟨l.length + 1 + 1, ?_⟩
  rw [vrun_succ]
  refine (f61_go _ kk l p).trans ?_
  exact f61_loop kk l p (of_decide_eq_true hb) l.length 0 (by omega)
theorem f56_run {R : Type} (kk : V → List Ob → Option R) (e : Ev) (h : Ev.okm e = true) :
    vrun (E12 8) f56cuts 0 100000 (vend (E12 8) 0 (fb Tryd.f56).1.results.toList false kk) 1 [.code (fb Tryd.f56).2] (start [enc true rEvent e] []) = kk (ratR (Ev.len e)) [] := by
  rw [vrun_succ, f56_go, h]
  cases hr : Ev.right e <;> simp only [Ev.len, hr] <;> rfl
theorem f29_loop {R : Type} (kk : V → List Ob → Option R) (e : Ev) (hb : e.pitches.length < 4611686018427387904) : ∀ (d i : Nat) (es : List (Pt × Bool)), i + d = e.pitches.length →
    vrun (E12 8) f29cuts 0 100000 (vend (E12 8) 0 (fb Tryd.f29).1.results.toList false kk) (d + 1) f29t3 (f29s0 e i e es) = kk (V.map 0) [Ob.map rPitch true (Ks.cons K.bool Ks.nil) false (tieRun (e.pitches.drop i) (e.ties.drop i) es)] := by
  intro d
  induction d with
  | zero =>
    intro i es hi
    have hp : e.snd.fst = e.pitches := rfl
    rw [vrun_succ, f29_0, hp, bif_neg (by exact decide_eq_false (by omega)), List.drop_eq_nil_of_le (by omega)]
    rfl
  | succ d ih =>
    intro i es hi
    have hlt : i < e.pitches.length := by omega
    have hp : e.snd.fst = e.pitches := rfl
    have ht : e.snd.snd.fst = e.ties := rfl
    rw [vrun_succ, f29_0, hp, ht, bif_pos (by exact decide_eq_true (by omega)), wrap_succ (by omega), idx_nat, List.getElem?_eq_getElem hlt]
    dsimp only
    rw [List.drop_eq_getElem_cons hlt]
    by_cases h : i < e.ties.length
    · rw [bif_pos (by exact decide_eq_true (by omega)), idx_nat, List.getElem?_eq_getElem h]
      dsimp only
      rw [List.drop_eq_getElem_cons h, tieRun]
      cases e.ties[i] with
      | false => exact ih (i + 1) es (by omega)
      | true => exact ih (i + 1) _ (by omega)
    · rw [bif_neg (by exact decide_eq_false (by omega)), ih (i + 1) es (by omega), List.drop_eq_nil_of_le (by omega : e.ties.length ≤ i), List.drop_eq_nil_of_le (by omega : e.ties.length ≤ i + 1)]
      cases List.drop (i + 1) e.pitches <;> rfl
theorem f29_run {R : Type} (kk : V → List Ob → Option R) (e : Ev) (hb : decide (e.pitches.length < 4611686018427387904) = true) :
    ∃ n, vrun (E12 8) f29cuts 0 100000 (vend (E12 8) 0 (fb Tryd.f29).1.results.toList false kk) n [.code (fb Tryd.f29).2] (start [enc true rEvent e] []) = kk (V.map 0) [Ob.map rPitch true (Ks.cons K.bool Ks.nil) false e.tm] := by
  refine ⟨e.pitches.length + 1 + 1, ?_⟩
  rw [vrun_succ]
  refine (f29_go _ kk e).trans ?_
  exact f29_loop kk e (of_decide_eq_true hb) e.pitches.length 0 [] (by omega)
noncomputable def f15e : Entry Tryd.prog gls := .two 15 true rIv true rIv (by intro h; cases h <;> rfl) (by intro h; cases h <;> rfl) (fun (x : Int × Int) (y : Int × Int) => (Rt.i64 x && Rt.i64 y, ratR (Rt.add x y))) fun x y h => by
  have _ := h
  have hn := f15_run (fun v os => some (v, os)) x y h
  exact contract_run (fn := (fb Tryd.f15).1) (c := (fb Tryd.f15).2) mixed (ready12 8) (glE12 8) Tryd.func15 (by kernel_rfl) rfl rfl (by kernel_rfl) hn

noncomputable def f30e : Entry Tryd.prog gls := .two 30 true rIv true rIv (by intro h; cases h <;> rfl) (by intro h; cases h <;> rfl) (fun (x : Int × Int) (y : Int × Int) => (Rt.i64 x && Rt.i64 y, ratR (Rt.sub x y))) fun x y h => by
  have _ := h
  have hn := f30_run (fun v os => some (v, os)) x y h
  exact contract_run (fn := (fb Tryd.f30).1) (c := (fb Tryd.f30).2) mixed (ready12 8) (glE12 8) Tryd.func30 (by kernel_rfl) rfl rfl (by kernel_rfl) hn

noncomputable def f16e : Entry Tryd.prog gls := .two 16 true rIv true rIv (by intro h; cases h <;> rfl) (by intro h; cases h <;> rfl) (fun (x : Int × Int) (y : Int × Int) => (Rt.i64 x && Rt.i64 y, .int .i64 (Rt.cmp x y))) fun x y h => by
  have _ := h
  have hn := f16_run (fun v os => some (v, os)) x y h
  exact contract_run (fn := (fb Tryd.f16).1) (c := (fb Tryd.f16).2) mixed (ready12 8) (glE12 8) Tryd.func16 (by kernel_rfl) rfl rfl (by kernel_rfl) hn

noncomputable def f61e : Entry Tryd.prog gls := .two 61 false (.cons (.sl rPitch) .nil) true rPitch (by intro h; cases h <;> rfl) (by intro h; cases h <;> rfl) (fun (x : List Pt) (y : Pt) => (decide (x.length < 4611686018427387904), .int .i64 (ptIdx y x 0))) fun x y h => by
  have _ := h
  obtain ⟨n, hn⟩ := f61_run (fun v os => some (v, os)) x y h
  exact contract_run (fn := (fb Tryd.f61).1) (c := (fb Tryd.f61).2) mixed (ready12 8) (glE12 8) Tryd.func61 (by kernel_rfl) rfl rfl (by kernel_rfl) hn

noncomputable def f56e : Entry Tryd.prog gls := .one 56 true rEvent (by intro h; cases h <;> rfl) (fun (x : Ev) => (Ev.okm x, ratR (Ev.len x))) fun x h => by
  have _ := h
  have hn := f56_run (fun v os => some (v, os)) x h
  exact contract_run (fn := (fb Tryd.f56).1) (c := (fb Tryd.f56).2) mixed (ready12 8) (glE12 8) Tryd.func56 (by kernel_rfl) rfl rfl (by kernel_rfl) hn

noncomputable def f29e : Entry Tryd.prog gls := .oneO 29 true rEvent (by intro h; cases h <;> rfl) (fun (x : Ev) => (decide (x.pitches.length < 4611686018427387904), V.map 0, [Ob.map rPitch true (Ks.cons K.bool Ks.nil) false x.tm])) fun x h => by
  obtain ⟨n, hn⟩ := f29_run (fun v os => some (v, os)) x h
  exact contract_run (fn := (fb Tryd.f29).1) (c := (fb Tryd.f29).2) mixed (ready12 8) (glE12 8) Tryd.func29 (by kernel_rfl) rfl rfl (by kernel_rfl) hn
noncomputable def es13 : List (Entry Tryd.prog gls) := [f15e, f30e, f16e, f61e, f56e, f29e] ++ es12
noncomputable def E13 (n : Nat) : Env := interp fns (look tys) gls mvs (tabOf es13) 100000 n
theorem ready13 (n : Nat) : Ready Tryd.prog (E13 n) := ready_of mixed fnsAll tysOk rfsOk n
theorem glE13 (n : Nat) : (E13 n).gl = gls := by cases n <;> rfl
end Vm.S07

open Go Go.Proofs
namespace Vm.S07
noncomputable abbrev f40cuts : Cuts := look [(2, [0, 1, 7, 8])]
noncomputable abbrev f40t2 : List Item := itemsAt (fb Tryd.f40).2 2
def f40s0 (l : List (Int × List (Int × Int × Int) × List Bool × Int × Int × Int × Int × List Int × List UInt8)) (n1 : Int) : St := { fr := [(0, V.sl rEvent l), (1, V.fn 41 [] []), (7, V.int IntKind.i64 (↑l.length : Int)), (8, V.int IntKind.i64 n1)], hp := [], nx := 0 }
theorem f40_go {R : Type} (J : List Item → St → Option R) (kk : V → List Ob → Option R) (l : List (Int × List (Int × Int × Int) × List Bool × Int × Int × Int × Int × List Int × List UInt8)) :
  vseg (E13 8) f40cuts 0 J (vend (E13 8) 0 (fb Tryd.f40).1.results.toList false kk) 100000 true [.code (fb Tryd.f40).2] (start ([V.sl rEvent l, V.fn (41 : Nat) [] []]) ([])) =
  J f40t2 (f40s0 (l) (0 : Int)) := by kernel_rfl
theorem f40_0 {R : Type} (J : List Item → St → Option R) (kk : V → List Ob → Option R) (l : List (Int × List (Int × Int × Int) × List Bool × Int × Int × Int × Int × List Int × List UInt8)) (n1 : Int) :
  vseg (E13 8) f40cuts 0 J (vend (E13 8) 0 (fb Tryd.f40).1.results.toList false kk) 100000 true f40t2 (f40s0 l n1) =
  (bif decide (n1 < (↑l.length : Int)) then
    (match idx l n1 with
      | some y2 => (bif Ev.okm y2 then
        (bif !Ev.right y2 then
          kk (V.int IntKind.i64 n1) ([])
        else J f40t2 (f40s0 (l) (IntKind.i64.wrap (n1 + (1 : Int)))))
      else none)
      | none => none)
  else kk (V.int IntKind.i64 ((-1 : Int))) ([])) := by kernel_rfl

end Vm.S07

open Go Go.Proofs
namespace Vm.S07
theorem f40_loop {R : Type} (kk : V → List Ob → Option R) (l : List Ev) (hb : l.length < 4611686018427387904) (ho : l.all Ev.okm = true) : ∀ (d i : Nat), i + d = l.length →
    vrun (E13 8) f40cuts 0 100000 (vend (E13 8) 0 (fb Tryd.f40).1.results.toList false kk) (d + 1) f40t2 (f40s0 l i) = kk (.int .i64 (badI (l.drop i) i)) [] := by
  intro d
  induction d with
  | zero =>
    intro i hi
    rw [vrun_succ, f40_0, bif_neg (by exact decide_eq_false (by omega)), List.drop_eq_nil_of_le (by omega)]
    rfl
  | succ d ih =>
    intro i hi
    have hlt : i < l.length := by omega
    rw [vrun_succ, f40_0, bif_pos (by exact decide_eq_true (by omega)), wrap_succ (by omega), ih (i + 1) (by omega), idx_nat, List.getElem?_eq_getElem hlt]
    dsimp only
    rw [List.drop_eq_getElem_cons hlt, List.all_eq_true.1 ho _ (List.getElem_mem hlt), cond_true, badI]
    cases h : Ev.right l[i] <;> simp
theorem f40_run {R : Type} (kk : V → List Ob → Option R) (l : List Ev) (hb : Vo.ok l = true) :
    ∃ n, vrun (E13 8) f40cuts 0 100000 (vend (E13 8) 0 (fb Tryd.f40).1.results.toList false kk) n [.code (fb Tryd.f40).2] (start [enc false (.cons (.sl rEvent) .nil) l, .fn 41 [] []] []) = kk (.int .i64 (badI l 0)) [] := by
  refine ⟨l.length + 1 + 1, ?_⟩
  simp only [Vo.ok, Bool.and_eq_true, decide_eq_true_eq] at hb
  rw [vrun_succ]
  refine (f40_go _ kk l).trans ?_
  exact f40_loop kk l hb.1 hb.2 l.length 0 (by omega)
noncomputable def f40e : Entry Tryd.prog gls := .oneF 40 false (.cons (.sl rEvent) .nil) (by intro h; cases h <;> rfl) 41 (fun (x : List Ev) => (Vo.ok x, .int .i64 (badI x 0))) fun x h => by
  obtain ⟨n, hn⟩ := f40_run (fun v os => some (v, os)) x h
  exact contract_run (fn := (fb Tryd.f40).1) (c := (fb Tryd.f40).2) mixed (ready13 8) (glE13 8) Tryd.func40 (by kernel_rfl) rfl rfl (by kernel_rfl) hn
noncomputable def es14 : List (Entry Tryd.prog gls) := [f40e] ++ es13
noncomputable def E14 (n : Nat) : Env := interp fns (look tys) gls mvs (tabOf es14) 100000 n
theorem ready14 (n : Nat) : Ready Tryd.prog (E14 n) := ready_of mixed fnsAll tysOk rfsOk n
theorem glE14 (n : Nat) : (E14 n).gl = gls := by cases n <;> rfl
end Vm.S07

open Go Go.Proofs
namespace Vm.S07
noncomputable abbrev f22cuts : Cuts := look [(7, [1, 5]), (10, [1, 5, 31])]
noncomputable abbrev f22t10 : List Item := itemsAt (fb Tryd.f22).2 10
noncomputable abbrev f22t7 : List Item := itemsAt (fb Tryd.f22).2 7
def f22s0 (n1 : Int) (l2 : List (Int × List (Int × Int × Int) × List Bool × Int × Int × Int × Int × List Int × List UInt8)) : St := { fr := [(1, V.ref 0 0 0 0), (5, V.int IntKind.i64 n1)], hp := [(0, Ob.var [V.sl rEvent l2])], nx := 1 }
def f22s1 (n1 : Int) (l4 : List (Int × List (Int × Int × Int) × List Bool × Int × Int × Int × Int × List Int × List UInt8)) (m5 : List ((Int × Int × Int) × Bool)) (c6 : Option ((Int × Int × Int) × Bool)) : St := { fr := [(1, V.ref 0 0 0 0), (5, V.int IntKind.i64 n1), (31, V.ref 1 0 0 0)], hp := [(0, Ob.var [V.sl rEvent l4]), (1, Ob.miter rPitch true (Ks.cons K.bool Ks.nil) false m5 c6)], nx := 2 }
theorem f22_go {R : Type} (J : List Item → St → Option R) (kk : V → List Ob → Option R) (l : List (Int × List (Int × Int × Int) × List Bool × Int × Int × Int × Int × List Int × List UInt8)) :
  vseg ((E14 8).nds) f22cuts 0 J (vend ((E14 8).nds) 0 (fb Tryd.f22).1.results.toList false kk) 100000 true [.code (fb Tryd.f22).2] (start ([enc true (Ks.cons (K.sl rEvent) Ks.nil) l]) ([])) =
  (bif decide ((64 : Int) < (↑l.length : Int)) then
    kk (V.tuple [V.int IntKind.i64 (64 : Int), V.int IntKind.i64 (70 : Int)]) ([])
  else (bif Vo.ok l then
      (bif decide ((0 : Int) ≤ badI l (0 : Nat)) then
        kk (V.tuple [V.int IntKind.i64 (badI l (0 : Nat)), V.int IntKind.i64 (60 : Int)]) ([])
      else J f22t7 (f22s0 (0 : Int) (l)))
    else none)) := by kernel_rfl
theorem f22_0 {R : Type} (J : List Item → St → Option R) (kk : V → List Ob → Option R) (n1 : Int) (l2 : List (Int × List (Int × Int × Int) × List Bool × Int × Int × Int × Int × List Int × List UInt8)) :
  vseg ((E14 8).nds) f22cuts 0 J (vend ((E14 8).nds) 0 (fb Tryd.f22).1.results.toList false kk) 100000 true f22t7 (f22s0 n1 l2) =
  (bif decide (IntKind.i64.wrap (n1 + (1 : Int)) < (↑l2.length : Int)) then
    (match idx l2 n1 with
      | some y3 => (bif decide ((Ev.pitches y3).length < (4611686018427387904 : Nat)) then
        J f22t10 (f22s1 (n1) (l2) (Ev.tm y3) (none))
      else none)
      | none => none)
  else kk (V.tuple [V.int IntKind.i64 (0 : Int), V.int IntKind.i64 (0 : Int)]) ([])) := by kernel_rfl
theorem f22_1 {R : Type} (J : List Item → St → Option R) (kk : V → List Ob → Option R) (n1 : Int) (l4 : List (Int × List (Int × Int × Int) × List Bool × Int × Int × Int × Int × List Int × List UInt8)) (m5 : List ((Int × Int × Int) × Bool)) (c6 : Option ((Int × Int × Int) × Bool)) :
  vseg ((E14 8).nds) f22cuts 0 J (vend ((E14 8).nds) 0 (fb Tryd.f22).1.results.toList false kk) 100000 true f22t10 (f22s1 n1 l4 m5 c6) =
  (bif decide (m5.length = (0 : Nat)) then
    J f22t7 (f22s0 (IntKind.i64.wrap (n1 + (1 : Int))) (l4))
  else allOf (m5) (fun i7 (y8 : (Int × Int × Int) × Bool) => (match idx l4 (IntKind.i64.wrap (n1 + (1 : Int))) with
        | some y9 => (bif decide (List.length y9.snd.fst < (4611686018427387904 : Nat)) then
          (bif !decide ((0 : Int) ≤ ptIdx y8.fst y9.snd.fst (0 : Nat)) then
            kk (V.tuple [V.int IntKind.i64 n1, V.int IntKind.i64 (71 : Int)]) ([])
          else J f22t10 (f22s1 (n1) (l4) (m5.eraseIdx i7) (some y8)))
        else none)
        | none => none))) := by kernel_rfl

end Vm.S07

open Go Go.Proofs
namespace Vm.S07
noncomputable abbrev f22F {R : Type} (kk : V → List Ob → Option R) (n : Nat) : List Item → St → Option R := vrun ((E14 8).nds) f22cuts 0 100000 (vend ((E14 8).nds) 0 (fb Tryd.f22).1.results.toList false kk) n
theorem f22_in {R : Type} (kk : V → List Ob → Option R) (l : Vo) (i : Nat) (b : Ev) (hi : i < 1000000) (hb : l[i + 1]? = some b) (hbp : b.pitches.length < 4611686018427387904) {N : Nat} {X : Option R} (hX : ∀ n, N ≤ n → f22F kk n f22t7 (f22s0 ((i + 1 : Nat) : Int) l) = X) :
    ∀ (k : Nat) (m : List (Pt × Bool)) (c : Option (Pt × Bool)) (n : Nat), m.length = k → N + k + 1 ≤ n →
    f22F kk n f22t10 (f22s1 i l m c) = if m.all (fun y => b.pitches.contains y.1) then X else kk (.tuple [.int .i64 i, .int .i64 71]) [] := by
  intro k
  induction k with
  | zero =>
    intro m c n hm hn
    obtain ⟨n, rfl⟩ : ∃ n', n = n' + 1 := ⟨n - 1, by omega⟩
    rw [f22F, vrun_succ, f22_1, bif_pos (decide_eq_true hm), List.length_eq_zero_iff.1 hm, wrap_succ (by omega)]
    exact hX n (by omega)
  | succ k ih =>
    intro m c n hm hn
    obtain ⟨n, rfl⟩ : ∃ n', n = n' + 1 := ⟨n - 1, by omega⟩
    rw [f22F, vrun_succ, f22_1, bif_neg (decide_eq_false (by omega)), wrap_succ (by omega)]
    refine allOf_const (by intro h; rw [h] at hm; cases hm) fun j y hy => ?_
    have hj : j < m.length := (List.getElem?_eq_some_iff.1 hy).1
    have e := ih (m.eraseIdx j) (some y) n (by rw [List.length_eraseIdx_of_lt hj]; omega) (by omega)
    rw [idx_nat, hb]
    dsimp only
    rw [bif_pos (by exact decide_eq_true hbp), all_erase hy, show decide ((0 : Int) ≤ ptIdx y.fst b.snd.fst 0) = b.pitches.contains y.1 from ptIdx_has _ _ _]
    cases hc : b.pitches.contains y.1 with
    | false => rfl
    | true => simp only [Bool.not_true, cond_false, Bool.true_and]; exact e
theorem f22_out {R : Type} (kk : V → List Ob → Option R) (l : Vo) (h64 : l.length ≤ 64) (hp : ∀ e ∈ l, e.pitches.length < 4611686018427387904) :
    ∀ (d i : Nat), i + d = l.length → ∃ N, ∀ n, N ≤ n → f22F kk n f22t7 (f22s0 i l) = if 0 ≤ tieI (l.drop i) i then kk (.tuple [.int .i64 (tieI (l.drop i) i), .int .i64 71]) [] else kk (.tuple [.int .i64 0, .int .i64 0]) [] := by
  intro d
  induction d with
  | zero =>
    intro i hi
    refine ⟨1, fun n hn => ?_⟩
    obtain ⟨n, rfl⟩ : ∃ n', n = n' + 1 := ⟨n - 1, by omega⟩
    rw [f22F, vrun_succ, f22_0, wrap_succ (by omega), bif_neg (by exact decide_eq_false (by omega)), List.drop_eq_nil_of_le (by omega)]
    rfl
  | succ d ih =>
    intro i hi
    have hlt : i < l.length := by omega
    by_cases h2 : i + 1 < l.length
    · obtain ⟨N, hN⟩ := ih (i + 1) (by omega)
      refine ⟨N + l[i].tm.length + 2, fun n hn => ?_⟩
      obtain ⟨n, rfl⟩ : ∃ n', n = n' + 1 := ⟨n - 1, by omega⟩
      have hb : l[i + 1]? = some l[i + 1] := List.getElem?_eq_getElem h2
      have e := f22_in kk l i l[i + 1] (by omega) hb (hp _ (List.getElem_mem h2)) hN l[i].tm.length l[i].tm none n rfl (by omega)
      rw [f22F, vrun_succ, f22_0, wrap_succ (by omega), bif_pos (by exact decide_eq_true (by omega)), idx_nat, List.getElem?_eq_getElem hlt]
      dsimp only
      rw [bif_pos (by exact decide_eq_true (hp _ (List.getElem_mem hlt)))]
      refine e.trans ?_
      rw [List.drop_eq_getElem_cons hlt, List.drop_eq_getElem_cons h2, tieI]
      by_cases hj : joined l[i] l[i + 1] = true
      · rw [if_pos hj, if_pos (by exact hj)]
      · rw [if_neg hj, if_neg (by exact hj), if_pos (by omega)]
    · refine ⟨1, fun n hn => ?_⟩
      obtain ⟨n, rfl⟩ : ∃ n', n = n' + 1 := ⟨n - 1, by omega⟩
      rw [f22F, vrun_succ, f22_0, wrap_succ (by omega), bif_neg (by exact decide_eq_false (by omega)), List.drop_eq_getElem_cons hlt, List.drop_eq_nil_of_le (by omega)]
      rfl
abbrev chkR (c : Int × Int) : V := .tuple [.int .i64 c.1, .int .i64 c.2]
theorem f22_run {R : Type} (kk : V → List Ob → Option R) (l : Vo) (h : Vo.ok l = true) :
    ∃ n, f22F kk n [.code (fb Tryd.f22).2] (start [enc true (.cons (.sl rEvent) .nil) l] []) = kk (chkR (Vo.chk l)) [] := by
  by_cases h1 : 64 < l.length
  · refine ⟨1, ?_⟩
    rw [f22F, vrun_succ]
    refine (f22_go _ kk l).trans ?_
    rw [bif_pos (by exact decide_eq_true (by omega)), Vo.chk, if_pos h1]
  · by_cases h2 : 0 ≤ badI l 0
    · refine ⟨1, ?_⟩
      rw [f22F, vrun_succ]
      refine (f22_go _ kk l).trans ?_
      rw [bif_neg (by exact decide_eq_false (by omega)), h, cond_true, bif_pos (decide_eq_true h2), Vo.chk, if_neg h1, if_pos h2]
    · have hr : l.all Ev.right = true := by
        have := badI_all l 0
        rw [decide_eq_false h2] at this
        cases he : l.all Ev.right with
        | true => rfl
        | false => rw [he] at this; cases this
      obtain ⟨N, hN⟩ := f22_out kk l (by omega) (fun e he => by
        have := (Ev.right_len (List.all_eq_true.1 hr e he)).1
        omega) l.length 0 (by omega)
      refine ⟨N + 1, ?_⟩
      rw [f22F, vrun_succ]
      refine (f22_go _ kk l).trans ?_
      rw [bif_neg (by exact decide_eq_false (by omega)), h, cond_true, bif_neg (decide_eq_false h2)]
      refine (hN N (Nat.le_refl _)).trans ?_
      rw [Vo.chk, if_neg h1, if_neg h2]
      rw [show List.drop 0 l = l from rfl]
      by_cases h3 : 0 ≤ tieI l 0
      · rw [if_pos h3, if_pos h3]
      · rw [if_neg h3, if_neg h3]
noncomputable def f22e : Entry Tryd.prog gls := .one 22 true (.cons (.sl rEvent) .nil) (by intro h; cases h) (fun (x : List Ev) => (Vo.ok x, chkR (Vo.chk x))) fun x h => by
  obtain ⟨n, hn⟩ := f22_run (fun v os => some (v, os)) x h
  exact contract_run (fn := (fb Tryd.f22).1) (c := (fb Tryd.f22).2) mixed (ready14 8).nds (glE14 8) Tryd.func22 (by kernel_rfl) rfl rfl (by kernel_rfl) hn
noncomputable def es15 : List (Entry Tryd.prog gls) := [f22e] ++ es14
noncomputable def E15 (n : Nat) : Env := interp fns (look tys) gls mvs (tabOf es15) 100000 n
theorem ready15 (n : Nat) : Ready Tryd.prog (E15 n) := ready_of mixed fnsAll tysOk rfsOk n
theorem glE15 (n : Nat) : (E15 n).gl = gls := by cases n <;> rfl
end Vm.S07

open Go Go.Proofs
namespace Vm.S07
noncomputable abbrev f32acuts : Cuts := fun _ => none
theorem f32a_go {R : Type} (J : List Item → St → Option R) (kk : V → List Ob → Option R) (x : Int × Int) (xs : List (Int × Int)) :
  vseg ((E15 8)) f32acuts 0 J (vend ((E15 8)) 0 (fb Tryd.f32).1.results.toList false kk) 100000 true [.code (fb Tryd.f32).2] (start ([V.sl rIv
    (have this := x :: xs;
    this)]) ([])) =
  (bif decide
  (((List.replicate (0 : Nat) (Int.ofNat (0 : Nat), Int.ofNat (0 : Nat))).length +
        (have this := x :: xs;
          this).length) *
      16 ≤
    bytesMost) then
    kk (V.sl (Ks.cons (K.int IntKind.i64) (Ks.cons (K.int IntKind.i64) Ks.nil))
  (List.replicate (0 : Nat) (Int.ofNat (0 : Nat), Int.ofNat (0 : Nat)) ++
    have this := x :: xs;
    this)) ([])
  else none) := by kernel_rfl

noncomputable abbrev f32bcuts : Cuts := fun _ => none
theorem f32b_go {R : Type} (J : List Item → St → Option R) (kk : V → List Ob → Option R) :
  vseg ((E15 8)) f32bcuts 0 J (vend ((E15 8)) 0 (fb Tryd.f32).1.results.toList false kk) 100000 true [.code (fb Tryd.f32).2] (start ([V.nilsl]) ([])) =
  kk (V.nilsl) ([]) := by kernel_rfl

noncomputable abbrev f32ccuts : Cuts := fun _ => none
theorem f32c_go {R : Type} (J : List Item → St → Option R) (kk : V → List Ob → Option R) :
  vseg ((E15 8)) f32ccuts 0 J (vend ((E15 8)) 0 (fb Tryd.f32).1.results.toList false kk) 100000 true [.code (fb Tryd.f32).2] (start ([V.emp rIv false]) ([])) =
  kk (V.sl (Ks.cons (K.int IntKind.i64) (Ks.cons (K.int IntKind.i64) Ks.nil)) []) ([]) := by kernel_rfl

noncomputable abbrev f27cuts : Cuts := look [(6, [6, 24, 25, 26])]
noncomputable abbrev f27t6 : List Item := itemsAt (fb Tryd.f27).2 6
def f27s0 (l : List (Int × List (Int × Int × Int) × List Bool × Int × Int × Int × Int × List Int × List UInt8)) (n1 : Int) (l2 : List (Int × Int)) : St := { fr := [(6, V.own 0), (24, V.sl rEvent l), (25, V.int IntKind.i64 (↑l.length : Int)), (26, V.int IntKind.i64 n1)], hp := [(0, Ob.arr (Ks.cons (K.int IntKind.i64) (Ks.cons (K.int IntKind.i64) Ks.nil)) l2 false)], nx := 1 }
theorem f27_go {R : Type} (J : List Item → St → Option R) (kk : V → List Ob → Option R) (l : List (Int × List (Int × Int × Int) × List Bool × Int × Int × Int × Int × List Int × List UInt8)) :
  vseg ((E15 8)) f27cuts 0 J (vend ((E15 8)) 0 (fb Tryd.f27).1.results.toList false kk) 100000 true [.code (fb Tryd.f27).2] (start ([enc true (Ks.cons (K.sl rEvent) Ks.nil) l]) ([])) =
  (bif Vo.ok l then
    (bif !decide ((Vo.chk l).snd = (0 : Int)) then
      kk (V.tuple [V.nilsl, V.int IntKind.i64 (Vo.chk l).snd]) ([])
    else J f27t6 (f27s0 (l) (0 : Int) ([((0 : Int), (1 : Int))])))
  else none) := by kernel_rfl
theorem f27_0 {R : Type} (J : List Item → St → Option R) (kk : V → List Ob → Option R) (l : List (Int × List (Int × Int × Int) × List Bool × Int × Int × Int × Int × List Int × List UInt8)) (n1 : Int) (l2 : List (Int × Int)) :
  vseg ((E15 8)) f27cuts 0 J (vend ((E15 8)) 0 (fb Tryd.f27).1.results.toList false kk) 100000 true f27t6 (f27s0 l n1 l2) =
  (bif decide (n1 < (↑l.length : Int)) then
    (match idx l n1 with
      | some y3 => (bif Ev.okm y3 then
        (match idx l2 n1 with
          | some y4 => (match l2[n1.toNat]? with
            | some y5 => (bif Rt.i64 y5 && Rt.i64 (Ev.len y3).fst then
              (bif !decide ((Rt.add y5 (Ev.len y3).fst).snd = (0 : Int)) then
                kk (V.tuple [V.nilsl, V.int IntKind.i64 (Rt.add y5 (Ev.len y3).fst).snd]) ([])
              else (bif decide ((l2.length + ((List.replicate (1 : Nat) (Int.ofNat (0 : Nat), Int.ofNat (0 : Nat))).set (0 : Nat) (Rt.add y5 (Ev.len y3).fst).fst).length) * 16 ≤ bytesMost) then
                  J f27t6 (f27s0 (l) (IntKind.i64.wrap (n1 + (1 : Int))) (l2 ++ (List.replicate (1 : Nat) (Int.ofNat (0 : Nat), Int.ofNat (0 : Nat))).set (0 : Nat) (Rt.add y5 (Ev.len y3).fst).fst))
                else none))
            else none)
            | none => none)
          | none => none)
      else none)
      | none => none)
  else kk (V.tuple [V.sl (Ks.cons (K.int IntKind.i64) (Ks.cons (K.int IntKind.i64) Ks.nil)) l2, V.int IntKind.i64 (0 : Int)]) ([])) := by kernel_rfl

end Vm.S07

open Go Go.Proofs
namespace Vm.S07
theorem f32_c (xs : List (Int × Int)) (h : decide (xs.length * 16 ≤ bytesMost) = true) : Contract Tryd.prog gls 32 [.sl rIv xs] [] (.sl rIv xs) [] := by
  refine slice_cases (r := rIv) (g := fun xs => .sl rIv xs) (c := fun (xs : List (Int × Int)) => decide (xs.length * 16 ≤ bytesMost)) (fun x xs h => ?_) (u := .nilsl) ?_ (v := .sl rIv []) ?_ (fun _ _ _ _ => nil_sl) (fun _ _ _ _ hr => hr) rfl xs h
  · have hn : vrun (E15 8) f32acuts 0 100000 (vend (E15 8) 0 (fb Tryd.f32).1.results.toList false fun v os => some (v, os)) 1 [.code (fb Tryd.f32).2] (start [.sl rIv (x :: xs)] []) = some (.sl rIv (x :: xs), []) := by
      rw [vrun_succ]
      refine (f32a_go (vrun (E15 8) f32acuts 0 100000 (vend (E15 8) 0 (fb Tryd.f32).1.results.toList false fun v os => some (v, os)) 0) (fun v os => some (v, os)) x xs).trans ?_
      have h' : (List.length (x :: xs)) * 16 ≤ bytesMost := of_decide_eq_true h
      rw [bif_pos (decide_eq_true (by rw [List.length_replicate, Nat.zero_add]; exact h'))]
      rfl
    exact contract_run (fn := (fb Tryd.f32).1) (c := (fb Tryd.f32).2) mixed (ready15 8) (glE15 8) Tryd.func32 (by kernel_rfl) rfl rfl (by kernel_rfl) hn
  · have hn : vrun (E15 8) f32bcuts 0 100000 (vend (E15 8) 0 (fb Tryd.f32).1.results.toList false fun v os => some (v, os)) 1 [.code (fb Tryd.f32).2] (start [.nilsl] []) = some (.nilsl, []) := by
      rw [vrun_succ]; exact f32b_go _ _
    exact contract_run (fn := (fb Tryd.f32).1) (c := (fb Tryd.f32).2) mixed (ready15 8) (glE15 8) Tryd.func32 (by kernel_rfl) rfl rfl (by kernel_rfl) hn
  · have hn : vrun (E15 8) f32ccuts 0 100000 (vend (E15 8) 0 (fb Tryd.f32).1.results.toList false fun v os => some (v, os)) 1 [.code (fb Tryd.f32).2] (start [.emp rIv false] []) = some (.sl rIv [], []) := by
      rw [vrun_succ]; exact f32c_go _ _
    exact contract_run (fn := (fb Tryd.f32).1) (c := (fb Tryd.f32).2) mixed (ready15 8) (glE15 8) Tryd.func32 (by kernel_rfl) rfl rfl (by kernel_rfl) hn
noncomputable def f32e : Entry Tryd.prog gls := .one 32 false (.cons (.sl rIv) .nil) (by intro h; cases h <;> rfl) (fun (x : List (Int × Int)) => (decide (x.length * 16 ≤ bytesMost), .sl rIv x)) fun x h => f32_c x h
abbrev slR (x : List (Int × Int) × Int) : V := .tuple [.sl rIv x.1, .int .i64 x.2]
/-- as the code leaves it: nil where it fails -/
abbrev slN (x : List (Int × Int) × Int) : V := .tuple [if x.2 = 0 then .sl rIv x.1 else .nilsl, .int .i64 x.2]
theorem f27_loop {R : Type} (kk : V → List Ob → Option R) (l : Vo) (hb : l.length ≤ 64) (ho : l.all Ev.okm = true) : ∀ (d i : Nat) (acc : List (Int × Int)) (t : Int × Int), i + d = l.length → acc.length = i + 1 → acc[i]? = some t → Rt.i64 t = true →
    vrun (E15 8) f27cuts 0 100000 (vend (E15 8) 0 (fb Tryd.f27).1.results.toList false kk) (d + 1) f27t6 (f27s0 l i acc) = kk (slN (acc ++ (sumsF t (l.drop i)).1, (sumsF t (l.drop i)).2)) [] := by
  intro d
  induction d with
  | zero =>
    intro i acc t hi ha ht hg
    rw [vrun_succ, f27_0, bif_neg (by exact decide_eq_false (by omega)), List.drop_eq_nil_of_le (by omega)]
    simp only [sumsF, List.append_nil]
    rfl
  | succ d ih =>
    intro i acc t hi ha ht hg
    have hlt : i < l.length := by omega
    rw [vrun_succ, f27_0, bif_pos (by exact decide_eq_true (by omega)), wrap_succ (by omega), idx_nat, List.getElem?_eq_getElem hlt]
    dsimp only
    rw [List.all_eq_true.1 ho _ (List.getElem_mem hlt), cond_true, idx_nat, ht]
    dsimp only
    rw [show ((i : Int).toNat) = i from rfl, ht]
    dsimp only
    rw [hg, Ev.len_i64, List.drop_eq_getElem_cons hlt]
    simp only [sumsF, Bool.and_self, cond_true]
    by_cases h1 : (Rt.add t (Ev.len l[i]).1).2 = 0
    · rw [decide_eq_true h1, Bool.not_true, cond_false, if_pos h1]
      have hlen : acc.length + ((List.replicate (1 : Nat) (Int.ofNat (0 : Nat), Int.ofNat (0 : Nat))).set (0 : Nat) (Rt.add t (Ev.len l[i]).1).1).length = i + 2 := by rw [ha]; rfl
      rw [bif_pos (by rw [hlen]; exact decide_eq_true (by simp only [bytesMost]; omega))]
      have e := ih (i + 1) (acc ++ [(Rt.add t (Ev.len l[i]).1).1]) (Rt.add t (Ev.len l[i]).1).1 (by omega) (by simp [ha]) (by rw [List.getElem?_append_right (by omega), ha]; simp) (Rt.add_i64 _ _)
      refine e.trans ?_
      by_cases h2 : (sumsF (Rt.add t (Ev.len l[i]).1).1 (l.drop (i + 1))).2 = 0
      · rw [if_pos h2]
        simp only [slN, h2, if_true, List.append_assoc, List.singleton_append]
      · rw [if_neg h2]
        simp only [slN, if_neg h2]
    · rw [decide_eq_false h1, Bool.not_false, cond_true, if_neg h1]
      simp only [slN, if_neg h1]
theorem f27_run {R : Type} (kk : V → List Ob → Option R) (l : Vo) (h : Vo.ok l = true) :
    ∃ n, vrun (E15 8) f27cuts 0 100000 (vend (E15 8) 0 (fb Tryd.f27).1.results.toList false kk) n [.code (fb Tryd.f27).2] (start [enc true (.cons (.sl rEvent) .nil) l] []) = kk (slN (Vo.sums l)) [] := by
  by_cases h1 : (Vo.chk l).2 = 0
  · have hs := Vo.chk_small h1
    have ho : l.all Ev.okm = true := by simp only [Vo.ok, Bool.and_eq_true] at h; exact h.2
    refine ⟨l.length + 1 + 1, ?_⟩
    rw [vrun_succ]
    refine (f27_go _ kk l).trans ?_
    rw [h, decide_eq_true h1]
    refine (f27_loop kk l hs.1 ho l.length 0 [(0, 1)] (0, 1) (by omega) rfl rfl rfl).trans ?_
    rw [Vo.sums, if_pos h1, show List.drop 0 l = l from rfl]
    by_cases h2 : (sumsF (0, 1) l).2 = 0
    · rw [if_pos h2, h2]; rfl
    · rw [if_neg h2]; simp only [slN, if_neg h2]
  · refine ⟨1, ?_⟩
    rw [vrun_succ]
    refine (f27_go _ kk l).trans ?_
    rw [h, decide_eq_false h1, Vo.sums, if_neg h1]
    simp only [slN, if_neg h1]
    rfl
theorem slN_canon (x : List (Int × Int) × Int) (h : x.2 ≠ 0 → x.1 = []) : canon2 false (.cons (.sl rIv) .nil) (slN x) = some (x.1, .int .i64 x.2) := by
  obtain ⟨a, b⟩ := x
  by_cases hb : b = 0
  · subst hb; rfl
  · have := h hb
    dsimp only at this
    subst this
    simp only [slN, if_neg hb]
    rfl
theorem Vo.sums_nil {l : Vo} (h : (Vo.sums l).2 ≠ 0) : (Vo.sums l).1 = [] := by
  unfold Vo.sums at h ⊢
  split
  · rename_i h1
    rw [if_pos h1] at h
    split
    · rename_i h2; rw [if_pos h2] at h; exact absurd rfl h
    · rfl
  · rfl
noncomputable def f27e : Entry Tryd.prog gls := .one 27 true (.cons (.sl rEvent) .nil) (by intro h; cases h) (fun (x : List Ev) => (Vo.ok x, slR (Vo.sums x))) fun x h => by
  obtain ⟨n, hn⟩ := f27_run (fun v os => some (v, os)) x h
  exact Contract.canon2 (a := false) (contract_run (fn := (fb Tryd.f27).1) (c := (fb Tryd.f27).2) mixed (ready15 8) (glE15 8) Tryd.func27 (by kernel_rfl) rfl rfl (by kernel_rfl) hn) (by intro _; rfl) (slN_canon _ Vo.sums_nil)
noncomputable def es16 : List (Entry Tryd.prog gls) := [f27e, f32e] ++ es15
noncomputable def E16 (n : Nat) : Env := interp fns (look tys) gls mvs (tabOf es16) 100000 n
theorem ready16 (n : Nat) : Ready Tryd.prog (E16 n) := ready_of mixed fnsAll tysOk rfsOk n
theorem glE16 (n : Nat) : (E16 n).gl = gls := by cases n <;> rfl
end Vm.S07

open Go Go.Proofs
namespace Vm.S07
noncomputable abbrev f13cuts : Cuts := fun _ => none
theorem f13_go {R : Type} (J : List Item → St → Option R) (kk : V → List Ob → Option R) (l : List (Int × List (Int × Int × Int) × List Bool × Int × Int × Int × Int × List Int × List UInt8)) :
  vseg ((E16 8)) f13cuts 0 J (vend ((E16 8)) 0 (fb Tryd.f13).1.results.toList false kk) 100000 true [.code (fb Tryd.f13).2] (start ([enc true (Ks.cons (K.sl rEvent) Ks.nil) l]) ([])) =
  (bif Vo.ok l then
    (bif !decide ((Vo.sums l).snd = (0 : Int)) then
      kk (V.tuple [V.nilsl, V.int IntKind.i64 (Vo.sums l).snd]) ([])
    else (bif decide ((0 : Int) ≤ (0 : Int) ∧ (0 : Int) ≤ (↑l.length : Int) ∧ (↑l.length : Int) ≤ (↑(Vo.sums l).fst.length : Int) ∧ (↑(Vo.sums l).fst.length : Int) ≤ (↑(Vo.sums l).fst.length : Int)) then
        (bif decide ((List.take ((↑l.length : Int).toNat - Int.toNat (0 : Int)) (List.drop (Int.toNat (0 : Int)) (Vo.sums l).fst)).length * (16 : Nat) ≤ bytesMost) then
          kk (V.tuple [V.sl rIv (List.take ((↑l.length : Int).toNat - Int.toNat (0 : Int)) (List.drop (Int.toNat (0 : Int)) (Vo.sums l).fst)), V.int IntKind.i64 (0 : Int)]) ([])
        else none)
      else none))
  else none) := by kernel_rfl

noncomputable abbrev f14cuts : Cuts := fun _ => none
theorem f14_go {R : Type} (J : List Item → St → Option R) (kk : V → List Ob → Option R) (l : List (Int × List (Int × Int × Int) × List Bool × Int × Int × Int × Int × List Int × List UInt8)) :
  vseg ((E16 8)) f14cuts 0 J (vend ((E16 8)) 0 (fb Tryd.f14).1.results.toList false kk) 100000 true [.code (fb Tryd.f14).2] (start ([enc true (Ks.cons (K.sl rEvent) Ks.nil) l]) ([])) =
  (bif Vo.ok l then
    (bif !decide ((Vo.sums l).snd = (0 : Int)) then
      kk (V.tuple [V.agg [V.int IntKind.i64 (0 : Int), V.int IntKind.i64 (0 : Int)], V.int IntKind.i64 (Vo.sums l).snd]) ([])
    else (match idx (Vo.sums l).fst (↑l.length : Int) with
        | some y1 => kk (V.tuple [V.agg [V.int IntKind.i64 y1.fst, V.int IntKind.i64 y1.snd], V.int IntKind.i64 (0 : Int)]) ([])
        | none => none))
  else none) := by kernel_rfl

noncomputable abbrev f17cuts : Cuts := look [(5, [3, 6, 23, 24])]
noncomputable abbrev f17t5 : List Item := itemsAt (fb Tryd.f17).2 5
def f17s0 (l : List (Int × List (Int × Int × Int) × List Bool × Int × Int × Int × Int × List Int × List UInt8)) (n1 : Int) (x2 : Int × Int) : St := { fr := [(3, V.ref 0 0 0 0), (6, V.sl rIv (Vo.sums l).fst), (23, V.int IntKind.i64 (↑l.length : Int)), (24, V.int IntKind.i64 n1)], hp := [(0, Ob.var [V.int IntKind.i64 x2.fst, V.int IntKind.i64 x2.snd])], nx := 1 }
theorem f17_go {R : Type} (J : List Item → St → Option R) (kk : V → List Ob → Option R) (l : List (Int × List (Int × Int × Int) × List Bool × Int × Int × Int × Int × List Int × List UInt8)) (t : Int × Int) :
  vseg ((E16 8)) f17cuts 0 J (vend ((E16 8)) 0 (fb Tryd.f17).1.results.toList false kk) 100000 true [.code (fb Tryd.f17).2] (start ([enc true (Ks.cons (K.sl rEvent) Ks.nil) l, enc true rIv t]) ([])) =
  (bif Vo.ok l then
    (bif !decide ((Vo.sums l).snd = (0 : Int)) then
      kk (V.tuple [V.int IntKind.i64 (0 : Int), V.bool false]) ([])
    else (bif Rt.i64 t then
        (bif !Rt.right t then
          kk (V.tuple [V.int IntKind.i64 (0 : Int), V.bool false]) ([])
        else J f17t5 (f17s0 (l) (0 : Int) (t)))
      else none))
  else none) := by kernel_rfl
theorem f17_0 {R : Type} (J : List Item → St → Option R) (kk : V → List Ob → Option R) (l : List (Int × List (Int × Int × Int) × List Bool × Int × Int × Int × Int × List Int × List UInt8)) (n1 : Int) (x2 : Int × Int) :
  vseg ((E16 8)) f17cuts 0 J (vend ((E16 8)) 0 (fb Tryd.f17).1.results.toList false kk) 100000 true f17t5 (f17s0 l n1 x2) =
  (bif decide (n1 < (↑l.length : Int)) then
    (match idx (Vo.sums l).fst n1 with
      | some y3 => (bif Rt.i64 y3 && Rt.i64 x2 then
        (bif decide (Rt.cmp y3 x2 ≤ (0 : Int)) then
          (match idx (Vo.sums l).fst (IntKind.i64.wrap (n1 + (1 : Int))) with
            | some y4 => (bif Rt.i64 x2 && Rt.i64 y4 then
              (bif decide (Rt.cmp x2 y4 < (0 : Int)) then
                kk (V.tuple [V.int IntKind.i64 n1, V.bool true]) ([])
              else J f17t5 (f17s0 (l) (IntKind.i64.wrap (n1 + (1 : Int))) (x2)))
            else none)
            | none => none)
        else J f17t5 (f17s0 (l) (IntKind.i64.wrap (n1 + (1 : Int))) (x2)))
      else none)
      | none => none)
  else kk (V.tuple [V.int IntKind.i64 (0 : Int), V.bool false]) ([])) := by kernel_rfl

noncomputable abbrev f39cuts : Cuts := look [(5, [1, 3, 36, 37, 38])]
noncomputable abbrev f39t5 : List Item := itemsAt (fb Tryd.f39).2 5
def f39s0 (n1 : Int) (m : Int × Int × List Int) (n2 : Int) (x3 : Int × Int × List Int) : St := { fr := [(1, V.ref 0 0 0 0), (3, V.int IntKind.i64 n1), (36, V.sl rI m.snd.snd), (37, V.int IntKind.i64 (↑(List.length m.snd.snd) : Int)), (38, V.int IntKind.i64 n2)], hp := [(0, Ob.var [V.int IntKind.i64 x3.fst, V.int IntKind.i64 x3.snd.fst, V.sl rI x3.snd.snd])], nx := 1 }
theorem f39_go {R : Type} (J : List Item → St → Option R) (kk : V → List Ob → Option R) (m : Int × Int × List Int) :
  vseg ((E16 8)) f39cuts 0 J (vend ((E16 8)) 0 (fb Tryd.f39).1.results.toList false kk) 100000 true [.code (fb Tryd.f39).2] (start ([enc true (Ks.cons kI (Ks.cons kI (Ks.cons (K.sl rI) Ks.nil))) m]) ([])) =
  (bif decide (m.fst < (1 : Int)) then
    kk (V.bool false) ([])
  else (bif decide ((32 : Int) < m.fst) then
      kk (V.bool false) ([])
    else (bif decide (m.snd.fst < (1 : Int)) then
        kk (V.bool false) ([])
      else (bif decide ((64 : Int) < m.snd.fst) then
          kk (V.bool false) ([])
        else (bif !decide (bitop BinOp.and IntKind.i64 m.snd.fst (IntKind.i64.wrap (m.snd.fst - (1 : Int))) = (0 : Int)) then
            kk (V.bool false) ([])
          else J f39t5 (f39s0 (m.fst) (m) (0 : Int) (m))))))) := by kernel_rfl
theorem f39_0 {R : Type} (J : List Item → St → Option R) (kk : V → List Ob → Option R) (n1 : Int) (m : Int × Int × List Int) (n2 : Int) (x3 : Int × Int × List Int) :
  vseg ((E16 8)) f39cuts 0 J (vend ((E16 8)) 0 (fb Tryd.f39).1.results.toList false kk) 100000 true f39t5 (f39s0 n1 m n2 x3) =
  (bif decide (n2 < (↑(List.length m.snd.snd) : Int)) then
    (match idx m.snd.snd n2 with
      | some y4 => (bif decide (y4 < (1 : Int)) then
        kk (V.bool false) ([])
      else (bif decide (n1 < y4) then
          kk (V.bool false) ([])
        else J f39t5 (f39s0 (IntKind.i64.wrap (n1 - y4)) (m) (IntKind.i64.wrap (n2 + (1 : Int))) (x3))))
      | none => none)
  else (bif decide (n1 = (0 : Int)) then
      kk (V.bool true) ([])
    else kk (V.bool (decide ((↑x3.snd.snd.length : Int) = (0 : Int)))) ([]))) := by kernel_rfl

noncomputable abbrev f52cuts : Cuts := look [(4, [1, 2, 15, 16, 17])]
noncomputable abbrev f52t4 : List Item := itemsAt (fb Tryd.f52).2 4
def f52s0 (b : List (Int × List (Int × Int × Int) × List Bool × Int × Int × Int × Int × List Int × List UInt8)) (a : List (Int × List (Int × Int × Int) × List Bool × Int × Int × Int × Int × List Int × List UInt8)) (n1 : Int) : St := { fr := [(1, V.sl rEvent b), (2, V.fn 53 [] []), (15, V.sl rEvent a), (16, V.int IntKind.i64 (↑a.length : Int)), (17, V.int IntKind.i64 n1)], hp := [], nx := 0 }
theorem f52_go {R : Type} (J : List Item → St → Option R) (kk : V → List Ob → Option R) (a : List (Int × List (Int × Int × Int) × List Bool × Int × Int × Int × Int × List Int × List UInt8)) (b : List (Int × List (Int × Int × Int) × List Bool × Int × Int × Int × Int × List Int × List UInt8)) :
  vseg ((E16 8)) f52cuts 0 J (vend ((E16 8)) 0 (fb Tryd.f52).1.results.toList false kk) 100000 true [.code (fb Tryd.f52).2] (start ([V.sl rEvent a, V.sl rEvent b, V.fn (53 : Nat) [] []]) ([])) =
  (bif !decide ((↑a.length : Int) = (↑b.length : Int)) then
    kk (V.bool false) ([])
  else J f52t4 (f52s0 (b) (a) (0 : Int))) := by kernel_rfl
theorem f52_0 {R : Type} (J : List Item → St → Option R) (kk : V → List Ob → Option R) (b : List (Int × List (Int × Int × Int) × List Bool × Int × Int × Int × Int × List Int × List UInt8)) (a : List (Int × List (Int × Int × Int) × List Bool × Int × Int × Int × Int × List Int × List UInt8)) (n1 : Int) :
  vseg ((E16 8)) f52cuts 0 J (vend ((E16 8)) 0 (fb Tryd.f52).1.results.toList false kk) 100000 true f52t4 (f52s0 b a n1) =
  (bif decide (n1 < (↑a.length : Int)) then
    (match idx a n1 with
      | some y2 => (match idx b n1 with
        | some y3 => (bif Ev.small y2 then
          (bif !Ev.same y2 y3 then
            kk (V.bool false) ([])
          else J f52t4 (f52s0 (b) (a) (IntKind.i64.wrap (n1 + (1 : Int)))))
        else none)
        | none => none)
      | none => none)
  else kk (V.bool true) ([])) := by kernel_rfl

end Vm.S07

open Go Go.Proofs
namespace Vm.S07
abbrev rVoice : Ks := .cons (.sl rEvent) .nil
abbrev rMeter : Ks := .cons kI (.cons kI (.cons (.sl rI) .nil))
theorem slN_bad {x : List (Int × Int) × Int} (h : x.2 ≠ 0) : slN x = .tuple [.nilsl, .int .i64 x.2] := by unfold slN; rw [if_neg h]
theorem f13_run {R : Type} (kk : V → List Ob → Option R) (l : Vo) (h : Vo.ok l = true) :
    vrun (E16 8) f13cuts 0 100000 (vend (E16 8) 0 (fb Tryd.f13).1.results.toList false kk) 1 [.code (fb Tryd.f13).2] (start [enc true rVoice l] []) = kk (slN (Vo.starts l)) [] := by
  rw [vrun_succ]
  refine (f13_go _ kk l).trans ?_
  rw [h]
  by_cases h1 : (Vo.sums l).2 = 0
  · have hl := Vo.sums_len h1
    have h64 := (Vo.chk_small hl.2).1
    rw [decide_eq_true h1, Bool.not_true, cond_false, cond_true, bif_pos (by exact decide_eq_true (by rw [hl.1]; omega)), bif_pos (by exact decide_eq_true (by rw [List.length_take]; simp only [bytesMost]; omega))]
    simp only [slN, Vo.starts, h1, if_true]
    rfl
  · rw [decide_eq_false h1]
    rw [slN_bad (x := Vo.starts l) h1]
    rfl
theorem Vo.starts_nil {l : Vo} (h : (Vo.starts l).2 ≠ 0) : (Vo.starts l).1 = [] := by
  have := Vo.sums_nil (l := l) h
  simp only [Vo.starts, this, List.take_nil]
noncomputable def f13e : Entry Tryd.prog gls := .one 13 true rVoice (by intro h; cases h) (fun (x : List Ev) => (Vo.ok x, slR (Vo.starts x))) fun x h => by
  have hn := f13_run (fun v os => some (v, os)) x h
  exact Contract.canon2 (a := false) (contract_run (fn := (fb Tryd.f13).1) (c := (fb Tryd.f13).2) mixed (ready16 8) (glE16 8) Tryd.func13 (by kernel_rfl) rfl rfl (by kernel_rfl) hn) (by intro _; rfl) (slN_canon _ Vo.starts_nil)
theorem f14_run {R : Type} (kk : V → List Ob → Option R) (l : Vo) (h : Vo.ok l = true) :
    vrun (E16 8) f14cuts 0 100000 (vend (E16 8) 0 (fb Tryd.f14).1.results.toList false kk) 1 [.code (fb Tryd.f14).2] (start [enc true rVoice l] []) = kk (ratR (Vo.len l)) [] := by
  rw [vrun_succ]
  refine (f14_go _ kk l).trans ?_
  rw [h]
  by_cases h1 : (Vo.sums l).2 = 0
  · have hl := Vo.sums_len h1
    rw [decide_eq_true h1, Bool.not_true, cond_false, cond_true, idx_nat]
    simp only [Vo.len, if_pos h1]
    cases he : (Vo.sums l).1[l.length]? with
    | none => rw [List.getElem?_eq_none_iff] at he; omega
    | some y => rfl
  · rw [decide_eq_false h1]
    simp only [Vo.len, if_neg h1]
    rfl
noncomputable def f14e : Entry Tryd.prog gls := .one 14 true rVoice (by intro h; cases h <;> rfl) (fun (x : List Ev) => (Vo.ok x, ratR (Vo.len x))) fun x h => by
  have _ := h
  have hn := f14_run (fun v os => some (v, os)) x h
  exact contract_run (fn := (fb Tryd.f14).1) (c := (fb Tryd.f14).2) mixed (ready16 8) (glE16 8) Tryd.func14 (by kernel_rfl) rfl rfl (by kernel_rfl) hn

theorem f17_loop {R : Type} (kk : V → List Ob → Option R) (l : Vo) (t : Int × Int) (h64 : l.length ≤ 64) (hl : (Vo.sums l).1.length = l.length + 1) (ht : Rt.i64 t = true) : ∀ (d i : Nat), i + d = l.length →
    vrun (E16 8) f17cuts 0 100000 (vend (E16 8) 0 (fb Tryd.f17).1.results.toList false kk) (d + 1) f17t5 (f17s0 l i t) = kk (.tuple [.int .i64 (atI t ((Vo.sums l).1.drop i) i).1, .bool (atI t ((Vo.sums l).1.drop i) i).2]) [] := by
  intro d
  induction d with
  | zero =>
    intro i hi
    rw [vrun_succ, f17_0, bif_neg (by exact decide_eq_false (by omega)), List.drop_eq_getElem_cons (by omega), List.drop_eq_nil_of_le (by omega)]
    rfl
  | succ d ih =>
    intro i hi
    have h1 : i < (Vo.sums l).1.length := by omega
    have h2 : i + 1 < (Vo.sums l).1.length := by omega
    have e := ih (i + 1) (by omega)
    rw [List.drop_eq_getElem_cons h2] at e
    rw [vrun_succ, f17_0, bif_pos (by exact decide_eq_true (by omega)), wrap_succ (by omega), idx_nat, idx_nat, List.getElem?_eq_getElem h1, List.getElem?_eq_getElem h2]
    dsimp only
    rw [ht, Vo.sums_i64 _ (List.getElem_mem h1), Vo.sums_i64 _ (List.getElem_mem h2), Bool.and_self, cond_true, cond_true, List.drop_eq_getElem_cons h1, List.drop_eq_getElem_cons h2, atI]
    by_cases c1 : Rt.cmp (Vo.sums l).1[i] t ≤ 0
    · rw [bif_pos (decide_eq_true c1), if_pos c1]
      by_cases c2 : Rt.cmp t (Vo.sums l).1[i + 1] < 0
      · rw [bif_pos (decide_eq_true c2), if_pos c2]
      · rw [bif_neg (decide_eq_false c2), if_neg c2]; exact e
    · rw [bif_neg (decide_eq_false c1), if_neg c1]; exact e
theorem f17_run {R : Type} (kk : V → List Ob → Option R) (l : Vo) (t : Int × Int) (h : (Vo.ok l && Rt.i64 t) = true) :
    ∃ n, vrun (E16 8) f17cuts 0 100000 (vend (E16 8) 0 (fb Tryd.f17).1.results.toList false kk) n [.code (fb Tryd.f17).2] (start [enc true rVoice l, enc true rIv t] []) = kk (.tuple [.int .i64 (Vo.at l t).1, .bool (Vo.at l t).2]) [] := by
  rw [Bool.and_eq_true] at h
  refine ⟨l.length + 1 + 1, ?_⟩
  rw [vrun_succ]
  refine (f17_go _ kk l t).trans ?_
  rw [h.1, h.2]
  by_cases h1 : (Vo.sums l).2 = 0
  · have hl := Vo.sums_len h1
    rw [decide_eq_true h1]
    simp only [Vo.at, if_pos h1]
    cases hr : Rt.right t with
    | false => rfl
    | true => exact f17_loop kk l t (Vo.chk_small hl.2).1 hl.1 h.2 l.length 0 (by omega)
  · rw [decide_eq_false h1]
    simp only [Vo.at, if_neg h1]
    rfl
noncomputable def f17e : Entry Tryd.prog gls := .two 17 true rVoice true rIv (by intro h; cases h <;> rfl) (by intro h; cases h <;> rfl) (fun (x : List Ev) (y : Int × Int) => (Vo.ok x && Rt.i64 y, .tuple [.int .i64 (Vo.at x y).1, .bool (Vo.at x y).2])) fun x y h => by
  have _ := h
  obtain ⟨n, hn⟩ := f17_run (fun v os => some (v, os)) x y h
  exact contract_run (fn := (fb Tryd.f17).1) (c := (fb Tryd.f17).2) mixed (ready16 8) (glE16 8) Tryd.func17 (by kernel_rfl) rfl rfl (by kernel_rfl) hn

theorem f39_loop {R : Type} (kk : V → List Ob → Option R) (m : Me) (hb : m.2.2.length < 4611686018427387904) : ∀ (d i : Nat) (n : Int), i + d = m.2.2.length → n ≤ 32 → 0 ≤ n →
    vrun (E16 8) f39cuts 0 100000 (vend (E16 8) 0 (fb Tryd.f39).1.results.toList false kk) (d + 1) f39t5 (f39s0 n m i m) = kk (.bool (match grpLeft n (m.2.2.drop i) with
      | none => false
      | some n => decide (n = 0) || decide (m.2.2.length = 0))) [] := by
  intro d
  induction d with
  | zero =>
    intro i n hi hn hn0
    rw [vrun_succ, f39_0, bif_neg (by exact decide_eq_false (by omega)), List.drop_eq_nil_of_le (by omega)]
    simp only [grpLeft]
    by_cases h : n = 0
    · rw [bif_pos (decide_eq_true h), decide_eq_true h]; rfl
    · rw [bif_neg (decide_eq_false h), decide_eq_false h, Bool.false_or]
      by_cases h2 : m.2.2.length = 0
      · rw [decide_eq_true h2, decide_eq_true (by omega)]
      · rw [decide_eq_false h2, decide_eq_false (by omega)]
  | succ d ih =>
    intro i n hi hn hn0
    have hlt : i < m.2.2.length := by omega
    rw [vrun_succ, f39_0, bif_pos (by exact decide_eq_true (by omega)), wrap_succ (by omega), idx_nat, List.getElem?_eq_getElem hlt, List.drop_eq_getElem_cons hlt]
    dsimp only
    rw [grpLeft]
    by_cases h1 : m.2.2[i] < 1
    · rw [bif_pos (decide_eq_true h1), if_pos h1]
    · rw [bif_neg (decide_eq_false h1), if_neg h1]
      by_cases h2 : n < m.2.2[i]
      · rw [bif_pos (decide_eq_true h2), if_pos h2]
      · rw [bif_neg (decide_eq_false h2), if_neg h2, w64 (n := n - m.2.2[i]) (by omega) (by omega)]
        exact ih (i + 1) _ (by omega) (by omega) (by omega)
theorem f39_run {R : Type} (kk : V → List Ob → Option R) (m : Me) (h : decide (m.2.2.length < 4611686018427387904) = true) :
    ∃ n, vrun (E16 8) f39cuts 0 100000 (vend (E16 8) 0 (fb Tryd.f39).1.results.toList false kk) n [.code (fb Tryd.f39).2] (start [enc true rMeter m] []) = kk (.bool (Me.right m)) [] := by
  refine ⟨m.2.2.length + 1 + 1, ?_⟩
  rw [vrun_succ]
  refine (f39_go _ kk m).trans ?_
  unfold Me.right
  by_cases h1 : m.1 < 1
  · rw [bif_pos (decide_eq_true h1), if_pos h1]
  rw [bif_neg (decide_eq_false h1), if_neg h1]
  by_cases h2 : 32 < m.1
  · rw [bif_pos (decide_eq_true h2), if_pos h2]
  rw [bif_neg (decide_eq_false h2), if_neg h2]
  by_cases h3 : m.2.1 < 1
  · rw [bif_pos (decide_eq_true h3), if_pos h3]
  rw [bif_neg (decide_eq_false h3), if_neg h3]
  by_cases h4 : 64 < m.2.1
  · rw [bif_pos (decide_eq_true h4), if_pos h4]
  rw [bif_neg (decide_eq_false h4), if_neg h4]
  unfold Me.pow
  by_cases h5 : bitop BinOp.and IntKind.i64 m.2.1 (IntKind.i64.wrap (m.2.1 - 1)) = 0
  · rw [decide_eq_true h5, Bool.not_true, cond_false, if_pos rfl]
    exact f39_loop kk m (of_decide_eq_true h) m.2.2.length 0 m.1 (by omega) (by omega) (by omega)
  · rw [decide_eq_false h5, Bool.not_false, cond_true, if_neg (by decide)]
noncomputable def f39e : Entry Tryd.prog gls := .one 39 true rMeter (by intro h; cases h <;> rfl) (fun (x : Me) => (decide (x.2.2.length < 4611686018427387904), .bool (Me.right x))) fun x h => by
  have _ := h
  obtain ⟨n, hn⟩ := f39_run (fun v os => some (v, os)) x h
  exact contract_run (fn := (fb Tryd.f39).1) (c := (fb Tryd.f39).2) mixed (ready16 8) (glE16 8) Tryd.func39 (by kernel_rfl) rfl rfl (by kernel_rfl) hn

theorem f52_loop {R : Type} (kk : V → List Ob → Option R) (a b : Vo) (hl : a.length = b.length) (hb : a.length < 4611686018427387904) (ho : a.all Ev.small = true) : ∀ (d i : Nat), i + d = a.length →
    vrun (E16 8) f52cuts 0 100000 (vend (E16 8) 0 (fb Tryd.f52).1.results.toList false kk) (d + 1) f52t4 (f52s0 b a i) = kk (.bool (voSame (a.drop i) (b.drop i))) [] := by
  intro d
  induction d with
  | zero =>
    intro i hi
    rw [vrun_succ, f52_0, bif_neg (by exact decide_eq_false (by omega)), List.drop_eq_nil_of_le (by omega), List.drop_eq_nil_of_le (by omega)]
    rfl
  | succ d ih =>
    intro i hi
    have h1 : i < a.length := by omega
    have h2 : i < b.length := by omega
    rw [vrun_succ, f52_0, bif_pos (by exact decide_eq_true (by omega)), wrap_succ (by omega), idx_nat, idx_nat, List.getElem?_eq_getElem h1, List.getElem?_eq_getElem h2]
    dsimp only
    rw [List.all_eq_true.1 ho _ (List.getElem_mem h1), List.drop_eq_getElem_cons h1, List.drop_eq_getElem_cons h2, voSame]
    cases hs : Ev.same a[i] b[i] with
    | false => rfl
    | true => exact ih (i + 1) (by omega)
theorem f52_run {R : Type} (kk : V → List Ob → Option R) (a b : Vo) (h : (decide (a.length < 4611686018427387904) && a.all Ev.small) = true) :
    ∃ n, vrun (E16 8) f52cuts 0 100000 (vend (E16 8) 0 (fb Tryd.f52).1.results.toList false kk) n [.code (fb Tryd.f52).2] (start [.sl rEvent a, .sl rEvent b, .fn 53 [] []] []) = kk (.bool (voSame a b)) [] := by
  simp only [Bool.and_eq_true, decide_eq_true_eq] at h
  by_cases hl : a.length = b.length
  · refine ⟨a.length + 1 + 1, ?_⟩
    rw [vrun_succ]
    refine (f52_go _ kk a b).trans ?_
    rw [decide_eq_true (by omega), Bool.not_true, cond_false]
    exact f52_loop kk a b hl h.1 h.2 a.length 0 (by omega)
  · refine ⟨1, ?_⟩
    rw [vrun_succ]
    refine (f52_go _ kk a b).trans ?_
    rw [decide_eq_false (by omega), Bool.not_false, cond_true]
    cases hs : voSame a b with
    | false => rfl
    | true => exact absurd (congrArg List.length ((voSame_iff a b).1 hs)) hl
noncomputable def f52e : Entry Tryd.prog gls := .twoF 52 false (.cons (.sl rEvent) .nil) false (.cons (.sl rEvent) .nil) (by intro h; cases h <;> rfl) (by intro h; cases h <;> rfl) 53 (fun (x y : List Ev) => (decide (x.length < 4611686018427387904) && x.all Ev.small, .bool (voSame x y))) fun x y h => by
  obtain ⟨n, hn⟩ := f52_run (fun v os => some (v, os)) x y h
  exact contract_run (fn := (fb Tryd.f52).1) (c := (fb Tryd.f52).2) mixed (ready16 8) (glE16 8) Tryd.func52 (by kernel_rfl) rfl rfl (by kernel_rfl) hn
noncomputable def es17 : List (Entry Tryd.prog gls) := [f13e, f14e, f17e, f39e, f52e] ++ es16
noncomputable def E17 (n : Nat) : Env := interp fns (look tys) gls mvs (tabOf es17) 100000 n
theorem ready17 (n : Nat) : Ready Tryd.prog (E17 n) := ready_of mixed fnsAll tysOk rfsOk n
theorem glE17 (n : Nat) : (E17 n).gl = gls := by cases n <;> rfl
end Vm.S07

