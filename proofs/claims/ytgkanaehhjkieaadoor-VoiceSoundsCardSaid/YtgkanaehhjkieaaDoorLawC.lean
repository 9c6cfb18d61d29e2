/- Marks and pitches that rise, which events are right, ratios and lengths, as runs of the value machine. -/
import Derived.Test.YtgkanaehhjkieaaDoorLawB
import Derived.Test.YtgkanaehhjkieaaDoorVmE
import Derived.KernelRfl
import Derived.Test.YtgkanaehhjkieaaDoorLawA
import Derived.Test.YtgkanaehhjkieaaDoorWords
set_option maxRecDepth 100000
open Go Go.Proofs
namespace Vm.S07
noncomputable abbrev f44cuts : Cuts := fun _ => none
theorem f44_go {R : Type} (J : List Item → St → Option R) (kk : V → List Ob → Option R) (s : List UInt8) :
  vseg (E6 8) f44cuts 0 J (vend (E6 8) 0 (fb Tryd.f44).1.results.toList false kk) 100000 true [.code (fb Tryd.f44).2] (start ([V.str s]) ([])) =
  (bif decide ((↑s.length : Int) ≤ (40 : Int)) then
    (bif U.valid s then
      kk (V.bool !decide ((0 : Int) ≤ U.oddAt s s.length (0 : Nat))) ([])
    else kk (V.bool false) ([]))
  else kk (V.bool false) ([])) := by kernel_rfl

noncomputable abbrev f45cuts : Cuts := look [(2, [0, 5, 6, 7])]
noncomputable abbrev f45t2 : List Item := itemsAt (fb Tryd.f45).2 2
def f45s0 (s : List Int) (n1 : Int) : St := { fr := [(0, V.sl rI s), (5, V.sl rI s), (6, V.int IntKind.i64 (↑s.length : Int)), (7, V.int IntKind.i64 n1)], hp := [], nx := 0 }
theorem f45_go {R : Type} (J : List Item → St → Option R) (kk : V → List Ob → Option R) (s : List Int) :
  vseg (E6 8) f45cuts 0 J (vend (E6 8) 0 (fb Tryd.f45).1.results.toList false kk) 100000 true [.code (fb Tryd.f45).2] (start ([V.sl rI s]) ([])) =
  J f45t2 (f45s0 (s) (0 : Int)) := by kernel_rfl
theorem f45_0 {R : Type} (J : List Item → St → Option R) (kk : V → List Ob → Option R) (s : List Int) (n1 : Int) :
  vseg (E6 8) f45cuts 0 J (vend (E6 8) 0 (fb Tryd.f45).1.results.toList false kk) 100000 true f45t2 (f45s0 s n1) =
  (bif decide (n1 < (↑s.length : Int)) then
    (match idx s n1 with
      | some y2 => (bif decide (y2 < (1 : Int)) then
        kk (V.bool false) ([])
      else (bif decide ((4 : Int) < y2) then
          kk (V.bool false) ([])
        else J f45t2 (f45s0 (s) (IntKind.i64.wrap (n1 + (1 : Int))))))
      | none => none)
  else (bif decide (s.length < (4611686018427387904 : Nat)) then
      kk (V.bool (risesI s)) ([])
    else none)) := by kernel_rfl

noncomputable abbrev f49cuts : Cuts := look [(2, [0, 1, 7, 8])]
noncomputable abbrev f49t2 : List Item := itemsAt (fb Tryd.f49).2 2
def f49s0 (s : List (Int × Int × Int)) (n1 : Int) : St := { fr := [(0, V.sl rPitch s), (1, V.fn 50 [] []), (7, V.int IntKind.i64 (↑s.length : Int)), (8, V.int IntKind.i64 n1)], hp := [], nx := 0 }
theorem f49_go {R : Type} (J : List Item → St → Option R) (kk : V → List Ob → Option R) (s : List (Int × Int × Int)) :
  vseg (E6 8) f49cuts 0 J (vend (E6 8) 0 (fb Tryd.f49).1.results.toList false kk) 100000 true [.code (fb Tryd.f49).2] (start ([V.sl rPitch s, V.fn (50 : Nat) [] []]) ([])) =
  J f49t2 (f49s0 (s) (0 : Int)) := by kernel_rfl
theorem f49_0 {R : Type} (J : List Item → St → Option R) (kk : V → List Ob → Option R) (s : List (Int × Int × Int)) (n1 : Int) :
  vseg (E6 8) f49cuts 0 J (vend (E6 8) 0 (fb Tryd.f49).1.results.toList false kk) 100000 true f49t2 (f49s0 s n1) =
  (bif decide (n1 < (↑s.length : Int)) then
    (bif decide ((0 : Int) < n1) then
      (match idx s n1 with
        | some y2 => (match idx s (IntKind.i64.wrap (n1 - (1 : Int))) with
          | some y3 => (bif !decide ((0 : Int) < Pt.cmp y2 y3) then
            kk (V.bool false) ([])
          else J f49t2 (f49s0 (s) (IntKind.i64.wrap (n1 + (1 : Int)))))
          | none => none)
        | none => none)
    else J f49t2 (f49s0 (s) (IntKind.i64.wrap (n1 + (1 : Int)))))
  else kk (V.bool true) ([])) := by kernel_rfl

end Vm.S07

open Go Go.Proofs
namespace Vm.S07
theorem f44_run {R : Type} (kk : V → List Ob → Option R) (s : List UInt8) :
    vrun (E6 8) f44cuts 0 100000 (vend (E6 8) 0 (fb Tryd.f44).1.results.toList false kk) 1 [.code (fb Tryd.f44).2] (start [.str s] []) = kk (.bool (plain s)) [] := by
  rw [vrun_succ, f44_go]
  unfold plain
  by_cases h : s.length ≤ 40
  · rw [bif_pos (by exact decide_eq_true (by omega)), decide_eq_true h, Bool.true_and]
    cases hv : U.valid s with
    | false => rfl
    | true =>
      have := U.oddAt_calm s s.length 0 (by omega) (by omega) hv
      rw [List.drop_zero] at this
      rw [cond_true, this, Bool.not_not, Bool.true_and]
  · rw [bif_neg (by exact decide_eq_false (by omega)), decide_eq_false h, Bool.false_and]

theorem f45_loop {R : Type} (kk : V → List Ob → Option R) (l : List Int) (hb : l.length < 4611686018427387904) : ∀ (d i : Nat), i + d = l.length →
    vrun (E6 8) f45cuts 0 100000 (vend (E6 8) 0 (fb Tryd.f45).1.results.toList false kk) (d + 1) f45t2 (f45s0 l i) = kk (.bool ((l.drop i).all (fun m => decide (1 ≤ m ∧ m ≤ 4)) && risesI l)) [] := by
  intro d
  induction d with
  | zero =>
    intro i hi
    rw [vrun_succ, f45_0, bif_neg (by exact decide_eq_false (by omega)), bif_pos (decide_eq_true hb), List.drop_eq_nil_of_le (by omega)]; rfl
  | succ d ih =>
    intro i hi
    have hlt : i < l.length := by omega
    rw [vrun_succ, f45_0, bif_pos (by exact decide_eq_true (by omega)), wrap_succ (by omega), ih (i + 1) (by omega), idx_nat, List.getElem?_eq_getElem hlt]
    dsimp only
    rw [List.drop_eq_getElem_cons hlt, List.all_cons]
    by_cases h1 : l[i] < 1
    · rw [bif_pos (decide_eq_true h1), show decide (1 ≤ l[i] ∧ l[i] ≤ 4) = false from decide_eq_false (by omega)]; rfl
    · rw [bif_neg (decide_eq_false h1)]
      by_cases h4 : 4 < l[i]
      · rw [bif_pos (decide_eq_true h4), show decide (1 ≤ l[i] ∧ l[i] ≤ 4) = false from decide_eq_false (by omega)]; rfl
      · rw [bif_neg (decide_eq_false h4), show decide (1 ≤ l[i] ∧ l[i] ≤ 4) = true from decide_eq_true (by omega), Bool.true_and]
theorem f45_run {R : Type} (kk : V → List Ob → Option R) (l : List Int) (hb : l.length < 4611686018427387904) :
    ∃ n, vrun (E6 8) f45cuts 0 100000 (vend (E6 8) 0 (fb Tryd.f45).1.results.toList false kk) n [.code (fb Tryd.f45).2] (start [enc false srI' l] []) = kk (.bool (marked l)) [] := by
  refine ⟨l.length + 1 + 1, ?_⟩
  rw [vrun_succ]
  refine (f45_go _ kk l).trans ?_
  exact f45_loop kk l hb l.length 0 (by omega)

theorem f49_loop {R : Type} (kk : V → List Ob → Option R) (l : List Pt) (hb : l.length < 4611686018427387904) : ∀ (d i : Nat), i + d = l.length →
    vrun (E6 8) f49cuts 0 100000 (vend (E6 8) 0 (fb Tryd.f49).1.results.toList false kk) (d + 1) f49t2 (f49s0 l i) = kk (.bool (risesP (l.drop (i - 1)))) [] := by
  intro d
  induction d with
  | zero =>
    intro i hi
    rw [vrun_succ, f49_0, bif_neg (by exact decide_eq_false (by omega)), risesP_short (by rw [List.length_drop]; omega)]
  | succ d ih =>
    intro i hi
    have hlt : i < l.length := by omega
    rw [vrun_succ, f49_0, bif_pos (by exact decide_eq_true (by omega)), wrap_succ (by omega), ih (i + 1) (by omega)]
    match i, hi, hlt with
    | 0, hi, hlt => rw [bif_neg (by exact decide_eq_false (by omega))]
    | i + 1, hi, hlt =>
      rw [bif_pos (by exact decide_eq_true (by omega)), w64 (n := ((i + 1 : Nat) : Int) - 1) (by omega) (by omega), idx_nat, idx_get l _ i (by omega), List.getElem?_eq_getElem hlt, List.getElem?_eq_getElem (by omega : i < l.length)]
      dsimp only
      rw [show i + 1 - 1 = i from rfl, show i + 1 + 1 - 1 = i + 1 from rfl, risesP_drop l i hlt]
      by_cases h : Pt.cmp l[i + 1] l[i] > 0
      · rw [bif_neg (by rw [show decide (0 < Pt.cmp l[i + 1] l[i]) = true from decide_eq_true h]; rfl), decide_eq_true h, Bool.true_and]
      · rw [bif_pos (by rw [show decide (0 < Pt.cmp l[i + 1] l[i]) = false from decide_eq_false h]; rfl), decide_eq_false h, Bool.false_and]
theorem f49_run {R : Type} (kk : V → List Ob → Option R) (l : List Pt) (hb : l.length < 4611686018427387904) :
    ∃ n, vrun (E6 8) f49cuts 0 100000 (vend (E6 8) 0 (fb Tryd.f49).1.results.toList false kk) n [.code (fb Tryd.f49).2] (start [enc false (.cons (.sl rPitch) .nil) l, .fn 50 [] []] []) = kk (.bool (risesP l)) [] := by
  refine ⟨l.length + 1 + 1, ?_⟩
  rw [vrun_succ]
  refine (f49_go _ kk l).trans ?_
  exact f49_loop kk l hb l.length 0 (by omega)
end Vm.S07

open Go Go.Proofs
namespace Vm.S07
abbrev upR (p : Pt) (b : Int × Int) : V := .tuple [enc true rPitch (Pt.upV p b), .int .i64 (Pt.upE p b)]
theorem upR_none {p : Pt} {b : Int × Int} (h : Pt.up p b = none) : upR p b = .tuple [.agg [.int .i64 0, .int .i64 0, .int .i64 0], .int .i64 20] := by
  simp only [upR, Pt.upV, Pt.upE, h]; rfl
noncomputable def f44e : Entry Tryd.prog gls := .one 44 false rS (by intro h; cases h <;> rfl) (fun (x : List UInt8) => (true, .bool (plain x))) fun x h => by
  have _ := h
  have hn := f44_run (fun v os => some (v, os)) x
  exact contract_run (fn := (fb Tryd.f44).1) (c := (fb Tryd.f44).2) mixed (ready6 8) (glE6 8) Tryd.func44 (by kernel_rfl) rfl rfl (by kernel_rfl) hn

abbrev srP' : Ks := .cons (.sl rPitch) .nil
noncomputable def f45e : Entry Tryd.prog gls := .one 45 false srI' (by intro h; cases h <;> rfl) (fun (x : List Int) => (decide (x.length < 4611686018427387904), .bool (marked x))) fun x h => by
  have _ := h
  obtain ⟨n, hn⟩ := f45_run (fun v os => some (v, os)) x (of_decide_eq_true h)
  exact contract_run (fn := (fb Tryd.f45).1) (c := (fb Tryd.f45).2) mixed (ready6 8) (glE6 8) Tryd.func45 (by kernel_rfl) rfl rfl (by kernel_rfl) hn

noncomputable def f49e : Entry Tryd.prog gls := .oneF 49 false srP' (by intro h; cases h <;> rfl) 50 (fun (x : List Pt) => (decide (x.length < 4611686018427387904), .bool (risesP x))) fun x h => by
  have _ := h
  obtain ⟨n, hn⟩ := f49_run (fun v os => some (v, os)) x (of_decide_eq_true h)
  exact contract_run (fn := (fb Tryd.f49).1) (c := (fb Tryd.f49).2) mixed (ready6 8) (glE6 8) Tryd.func49 (by kernel_rfl) rfl rfl (by kernel_rfl) hn

noncomputable def es7 : List (Entry Tryd.prog gls) := [f44e, f45e, f49e] ++ es6
noncomputable def E7 (n : Nat) : Env := interp fns (look tys) gls mvs (tabOf es7) 100000 n
theorem ready7 (n : Nat) : Ready Tryd.prog (E7 n) := ready_of mixed fnsAll tysOk rfsOk n
theorem glE7 (n : Nat) : (E7 n).gl = gls := by cases n <;> rfl
end Vm.S07

open Go Go.Proofs
namespace Vm.S07
noncomputable abbrev f23cuts : Cuts := look [(3, [1]), (5, [1]), (8, [1, 64, 65, 66])]
noncomputable abbrev f23t8 : List Item := itemsAt (fb Tryd.f23).2 8
noncomputable abbrev f23t5 : List Item := itemsAt (fb Tryd.f23).2 5
noncomputable abbrev f23t3 : List Item := itemsAt (fb Tryd.f23).2 3
def f23s0 (x1 : Int × List (Int × Int × Int) × List Bool × Int × Int × Int × Int × List Int × List UInt8) : St := { fr := [(1, V.ref 0 0 0 0)], hp := [(0, Ob.var [V.int IntKind.i64 x1.fst, V.sl rPitch x1.snd.fst, V.sl rB x1.snd.snd.fst, V.int IntKind.i64 x1.snd.snd.snd.fst, V.int IntKind.i64 x1.snd.snd.snd.snd.fst, V.int IntKind.i64 x1.snd.snd.snd.snd.snd.fst, V.int IntKind.i64 x1.snd.snd.snd.snd.snd.snd.fst, V.sl rI x1.snd.snd.snd.snd.snd.snd.snd.fst, V.str x1.snd.snd.snd.snd.snd.snd.snd.snd])], nx := 1 }
def f23s1 (x2 : Int × List (Int × Int × Int) × List Bool × Int × Int × Int × Int × List Int × List UInt8) : St := { fr := [(1, V.ref 0 0 0 0)], hp := [(0, Ob.var [V.int IntKind.i64 x2.fst, V.sl rPitch x2.snd.fst, V.sl rB x2.snd.snd.fst, V.int IntKind.i64 x2.snd.snd.snd.fst, V.int IntKind.i64 x2.snd.snd.snd.snd.fst, V.int IntKind.i64 x2.snd.snd.snd.snd.snd.fst, V.int IntKind.i64 x2.snd.snd.snd.snd.snd.snd.fst, V.sl rI x2.snd.snd.snd.snd.snd.snd.snd.fst, V.str x2.snd.snd.snd.snd.snd.snd.snd.snd])], nx := 1 }
def f23s2 (x2 : Int × List (Int × Int × Int) × List Bool × Int × Int × Int × Int × List Int × List UInt8) (n3 : Int) (x4 : Int × List (Int × Int × Int) × List Bool × Int × Int × Int × Int × List Int × List UInt8) : St := { fr := [(1, V.ref 0 0 0 0), (64, V.sl rPitch x2.snd.fst), (65, V.int IntKind.i64 (↑x2.snd.fst.length : Int)), (66, V.int IntKind.i64 n3)], hp := [(0, Ob.var [V.int IntKind.i64 x4.fst, V.sl rPitch x4.snd.fst, V.sl rB x4.snd.snd.fst, V.int IntKind.i64 x4.snd.snd.snd.fst, V.int IntKind.i64 x4.snd.snd.snd.snd.fst, V.int IntKind.i64 x4.snd.snd.snd.snd.snd.fst, V.int IntKind.i64 x4.snd.snd.snd.snd.snd.snd.fst, V.sl rI x4.snd.snd.snd.snd.snd.snd.snd.fst, V.str x4.snd.snd.snd.snd.snd.snd.snd.snd])], nx := 1 }
theorem f23_go {R : Type} (J : List Item → St → Option R) (kk : V → List Ob → Option R) (x : Int × List (Int × Int × Int) × List Bool × Int × Int × Int × Int × List Int × List UInt8) :
  vseg (E7 8) f23cuts 0 J (vend (E7 8) 0 (fb Tryd.f23).1.results.toList false kk) 100000 true [.code (fb Tryd.f23).2] (start ([enc true rEvent x]) ([])) =
  (bif !Vl.right (x.snd.snd.snd.fst, x.snd.snd.snd.snd.fst, x.snd.snd.snd.snd.snd.fst, x.snd.snd.snd.snd.snd.snd.fst) then
    kk (V.bool false) ([])
  else (bif !plain x.snd.snd.snd.snd.snd.snd.snd.snd then
      kk (V.bool false) ([])
    else (bif decide (List.length x.snd.snd.snd.snd.snd.snd.snd.fst < (4611686018427387904 : Nat)) then
        (bif !marked x.snd.snd.snd.snd.snd.snd.snd.fst then
          kk (V.bool false) ([])
        else (bif !decide ((↑(List.length x.snd.snd.fst) : Int) = (↑(List.length x.snd.fst) : Int)) then
            kk (V.bool false) ([])
          else J f23t3 (f23s0 (x))))
      else none))) := by kernel_rfl
theorem f23_0 {R : Type} (J : List Item → St → Option R) (kk : V → List Ob → Option R) (x1 : Int × List (Int × Int × Int) × List Bool × Int × Int × Int × Int × List Int × List UInt8) :
  vseg (E7 8) f23cuts 0 J (vend (E7 8) 0 (fb Tryd.f23).1.results.toList false kk) 100000 true f23t3 (f23s0 x1) =
  (bif decide (x1.fst = (0 : Int)) then
    (bif decide ((↑x1.snd.fst.length : Int) = (0 : Int)) then
      (bif x1.snd.snd.snd.snd.snd.snd.snd.snd == ([] : List UInt8) then
        (bif decide (x1.snd.snd.snd.snd.snd.snd.snd.fst.length < (4611686018427387904 : Nat)) then
          kk (V.bool !decide ((0 : Int) ≤ notFour x1.snd.snd.snd.snd.snd.snd.snd.fst (0 : Nat))) ([])
        else none)
      else kk (V.bool false) ([]))
    else kk (V.bool false) ([]))
  else J f23t5 (f23s1 (x1))) := by kernel_rfl
theorem f23_1 {R : Type} (J : List Item → St → Option R) (kk : V → List Ob → Option R) (x2 : Int × List (Int × Int × Int) × List Bool × Int × Int × Int × Int × List Int × List UInt8) :
  vseg (E7 8) f23cuts 0 J (vend (E7 8) 0 (fb Tryd.f23).1.results.toList false kk) 100000 true f23t5 (f23s1 x2) =
  (bif !decide (x2.fst = (1 : Int)) then
    kk (V.bool false) ([])
  else (bif decide ((↑x2.snd.fst.length : Int) < (1 : Int)) then
      kk (V.bool false) ([])
    else (bif decide ((8 : Int) < (↑x2.snd.fst.length : Int)) then
        kk (V.bool false) ([])
      else J f23t8 (f23s2 (x2) (0 : Int) (x2))))) := by kernel_rfl
theorem f23_2 {R : Type} (J : List Item → St → Option R) (kk : V → List Ob → Option R) (x2 : Int × List (Int × Int × Int) × List Bool × Int × Int × Int × Int × List Int × List UInt8) (n3 : Int) (x4 : Int × List (Int × Int × Int) × List Bool × Int × Int × Int × Int × List Int × List UInt8) :
  vseg (E7 8) f23cuts 0 J (vend (E7 8) 0 (fb Tryd.f23).1.results.toList false kk) 100000 true f23t8 (f23s2 x2 n3 x4) =
  (bif decide (n3 < (↑x2.snd.fst.length : Int)) then
    (match idx x2.snd.fst n3 with
      | some y5 => (bif !Pt.right y5 then
        kk (V.bool false) ([])
      else J f23t8 (f23s2 (x2) (IntKind.i64.wrap (n3 + (1 : Int))) (x4)))
      | none => none)
  else (bif decide (x4.snd.fst.length < (4611686018427387904 : Nat)) then
      kk (V.bool (risesP x4.snd.fst)) ([])
    else none)) := by kernel_rfl

end Vm.S07

open Go Go.Proofs
namespace Vm.S07
theorem f23_loop {R : Type} (kk : V → List Ob → Option R) (x y : Ev) (hb : x.2.1.length < 4611686018427387904) (hy : y.2.1.length < 4611686018427387904) : ∀ (d i : Nat), i + d = x.2.1.length →
    vrun (E7 8) f23cuts 0 100000 (vend (E7 8) 0 (fb Tryd.f23).1.results.toList false kk) (d + 1) f23t8 (f23s2 x i y) = kk (.bool ((x.2.1.drop i).all Pt.right && risesP y.2.1)) [] := by
  intro d
  induction d with
  | zero =>
    intro i hi
    rw [vrun_succ, f23_2, bif_neg (by exact decide_eq_false (by omega)), bif_pos (decide_eq_true hy), List.drop_eq_nil_of_le (by omega)]; rfl
  | succ d ih =>
    intro i hi
    have hlt : i < x.2.1.length := by omega
    rw [vrun_succ, f23_2, bif_pos (by exact decide_eq_true (by omega)), wrap_succ (by omega), ih (i + 1) (by omega), idx_nat, List.getElem?_eq_getElem hlt]
    dsimp only
    rw [List.drop_eq_getElem_cons hlt, List.all_cons]
    cases Pt.right x.2.1[i] <;> rfl
theorem cond_not_kb {R : Type} (kk : V → List Ob → Option R) (c : Bool) (X : Option R) (b : Bool) (h : c = true → X = kk (.bool b) []) : (bif !c then kk (.bool false) [] else X) = kk (.bool (c && b)) [] := by
  cases c with
  | false => rfl
  | true => exact h rfl
theorem f23_run {R : Type} (kk : V → List Ob → Option R) (x : Ev) (hm : Ev.okm x = true) :
    ∃ n, vrun (E7 8) f23cuts 0 100000 (vend (E7 8) 0 (fb Tryd.f23).1.results.toList false kk) n [.code (fb Tryd.f23).2] (start [enc true rEvent x] []) = kk (.bool (Ev.right x)) [] := by
  refine ⟨x.2.1.length + 1 + 1 + 1 + 1, ?_⟩
  rw [vrun_succ, f23_go, Ev.right_eq]
  refine cond_not_kb kk _ _ _ fun h1 => cond_not_kb kk _ _ _ fun h2 => ?_
  have hm' : decide (x.snd.snd.snd.snd.snd.snd.snd.fst.length < 4611686018427387904) = true := hm
  rw [bif_pos hm']
  refine cond_not_kb kk _ _ _ fun h3 => ?_
  rw [show decide ((x.snd.snd.fst.length : Int) = (x.snd.fst.length : Int)) = decide (x.ties.length = x.pitches.length) from decide_eq_decide.2 ⟨fun h => Int.ofNat_inj.1 h, fun h => congrArg Int.ofNat h⟩]
  refine cond_not_kb kk _ _ _ fun h4 => ?_
  rw [vrun_succ, f23_0]
  unfold Ev.shape
  by_cases hk : x.1 = 0
  · rw [bif_pos (decide_eq_true hk), if_pos (show x.kind = 0 from hk)]
    by_cases hp : x.2.1.length = 0
    · rw [bif_pos (by exact decide_eq_true (by omega)), show decide (x.pitches.length = 0) = true from decide_eq_true hp, Bool.true_and]
      by_cases hw : x.2.2.2.2.2.2.2.2 = []
      · rw [show decide (x.word = []) = true from decide_eq_true hw, hw, bif_pos (by rfl), bif_pos hm', notFour_neg, Bool.not_not, Bool.true_and]; rfl
      · rw [show decide (x.word = []) = false from decide_eq_false hw, bif_neg (by simpa using hw)]; rfl
    · rw [bif_neg (by exact decide_eq_false (by omega)), show decide (x.pitches.length = 0) = false from decide_eq_false hp]; rfl
  · rw [bif_neg (decide_eq_false hk), if_neg (show ¬ x.kind = 0 from hk), vrun_succ, f23_1]
    refine cond_not_kb kk _ _ _ fun h5 => ?_
    by_cases p1 : x.2.1.length < 1
    · rw [bif_pos (by exact decide_eq_true (by omega)), show decide (1 ≤ x.pitches.length) = false from decide_eq_false (by simp only [Ev.pitches]; omega)]; rfl
    · rw [bif_neg (by exact decide_eq_false (by omega)), show decide (1 ≤ x.pitches.length) = true from decide_eq_true (by simp only [Ev.pitches]; omega), Bool.true_and]
      by_cases p8 : 8 < x.2.1.length
      · rw [bif_pos (by exact decide_eq_true (by omega)), show decide (x.pitches.length ≤ 8) = false from decide_eq_false (by simp only [Ev.pitches]; omega)]; rfl
      · rw [bif_neg (by exact decide_eq_false (by omega)), show decide (x.pitches.length ≤ 8) = true from decide_eq_true (by simp only [Ev.pitches]; omega), Bool.true_and]
        exact f23_loop kk x x (by omega) (by omega) x.2.1.length 0 (by omega)

noncomputable def f23e : Entry Tryd.prog gls := .one 23 true rEvent (by intro h; cases h <;> rfl) (fun (x : Ev) => (Ev.okm x, .bool (Ev.right x))) fun x h => by
  have _ := h
  obtain ⟨n, hn⟩ := f23_run (fun v os => some (v, os)) x h
  exact contract_run (fn := (fb Tryd.f23).1) (c := (fb Tryd.f23).2) mixed (ready7 8) (glE7 8) Tryd.func23 (by kernel_rfl) rfl rfl (by kernel_rfl) hn

noncomputable def es8 : List (Entry Tryd.prog gls) := [f23e] ++ es7
noncomputable def E8 (n : Nat) : Env := interp fns (look tys) gls mvs (tabOf es8) 100000 n
theorem ready8 (n : Nat) : Ready Tryd.prog (E8 n) := ready_of mixed fnsAll tysOk rfsOk n
theorem glE8 (n : Nat) : (E8 n).gl = gls := by cases n <;> rfl
end Vm.S07

open Go Go.Proofs
namespace Vm.S07
noncomputable abbrev f36cuts : Cuts := fun _ => none
theorem f36_go {R : Type} (J : List Item → St → Option R) (kk : V → List Ob → Option R) (n : Int) :
  vseg (E8 8) f36cuts 0 J (vend (E8 8) 0 (fb Tryd.f36).1.results.toList false kk) 100000 true [.code (fb Tryd.f36).2] (start ([V.int IntKind.i64 n]) ([])) =
  (bif decide (n < (0 : Int)) then
    kk (V.int IntKind.u64 (IntKind.u64.wrap ((0 : Int) - IntKind.u64.wrap n))) ([])
  else kk (V.int IntKind.u64 (IntKind.u64.wrap n)) ([])) := by kernel_rfl

end Vm.S07

open Go Go.Proofs
namespace Vm.S07
abbrev rU : Ks := .cons (.int .u64) .nil
def ltB (b : Int) (k : Nat) : Bool := decide (b < k)
structure CommonBelow (k : Nat) : Prop where
  says : ∀ a b : Int, (posB a b && ltB b k) = true → Contract Tryd.prog gls 37 [enc false rU a, enc false rU b] [] (.int .u64 (gcdI a b)) []
noncomputable def commonE (k : Nat) (ih : CommonBelow k) : Entry Tryd.prog gls := .two 37 false rU false rU (by intro h; cases h <;> rfl) (by intro h; cases h <;> rfl) (fun (a : Int) (b : Int) => (posB a b && ltB b k, .int .u64 (gcdI a b))) fun a b h => ih.says a b h
noncomputable def Ec (k : Nat) (ih : CommonBelow k) (n : Nat) : Env := interp fns (look tys) gls mvs (tabOf [commonE k ih]) 100000 n
theorem common_go (k : Nat) (ih : CommonBelow k) {R : Type} (J : List Item → St → Option R) (kk : V → List Ob → Option R) (a b : Int) :
  vseg (Ec k ih 8) (fun _ => none) 0 J (vend (Ec k ih 8) 0 (fb Tryd.f37).1.results.toList false kk) 100000 true [.code (fb Tryd.f37).2] (start ([.int .u64 a, .int .u64 b]) ([])) =
  (bif decide (b = (0 : Int)) then kk (.int .u64 a) [] else (bif decide (b = (0 : Int)) then none else (bif posB b (a.tmod b) && ltB (a.tmod b) k then kk (.int .u64 (gcdI b (a.tmod b))) [] else none))) := by kernel_rfl
theorem common_below : ∀ k, CommonBelow k := by
  intro k
  induction k with
  | zero => refine ⟨?_⟩; intro a b h; simp only [posB, ltB, Bool.and_eq_true, decide_eq_true_eq] at h; omega
  | succ k ih =>
    refine ⟨?_⟩
    intro a b h
    simp only [posB, ltB, Bool.and_eq_true, decide_eq_true_eq] at h
    obtain ⟨⟨ha, hb⟩, hk⟩ := h
    have hn : vrun (Ec k ih 8) (fun _ => none) 0 100000 (vend (Ec k ih 8) 0 (fb Tryd.f37).1.results.toList false fun v os => some (v, os)) 1 [.code (fb Tryd.f37).2] (start [.int .u64 a, .int .u64 b] []) = some (.int .u64 (gcdI a b), []) := by
      rw [vrun_succ, common_go]
      by_cases h0 : b = 0
      · subst h0; rw [bif_pos (by rfl), gcdI_zero ha]
      · have h1 : 0 ≤ a.tmod b := Int.tmod_nonneg b ha
        have h2 : a.tmod b < b := Int.tmod_lt_of_pos a (by omega)
        rw [bif_neg (decide_eq_false h0), bif_neg (decide_eq_false h0), bif_pos (by simp only [posB, ltB, Bool.and_eq_true, decide_eq_true_eq]; omega), ← gcdI_step ha (by omega)]
    exact contract_run (fn := (fb Tryd.f37).1) (c := (fb Tryd.f37).2) mixed (ready_of mixed fnsAll tysOk rfsOk 8) rfl Tryd.func37 (by kernel_rfl) rfl rfl (by kernel_rfl) hn
noncomputable def f37e : Entry Tryd.prog gls := .two 37 false rU false rU (by intro h; cases h <;> rfl) (by intro h; cases h <;> rfl) (fun (a : Int) (b : Int) => (posB a b, .int .u64 (gcdI a b))) fun a b h =>
  (common_below (b.toNat + 1)).says a b (by
    have h' : posB a b = true := h
    rw [h']; simp only [ltB, Bool.true_and, decide_eq_true_eq]
    simp only [posB, decide_eq_true_eq] at h'
    have : (b.toNat : Int) = b := Int.toNat_of_nonneg h'.2
    omega)
theorem f36_run {R : Type} (kk : V → List Ob → Option R) (n : Int) (h : i64B n = true) :
    vrun (E8 8) f36cuts 0 100000 (vend (E8 8) 0 (fb Tryd.f36).1.results.toList false kk) 1 [.code (fb Tryd.f36).2] (start [enc false rI n] []) = kk (.int .u64 (absI n)) [] := by
  rw [vrun_succ]
  refine (f36_go _ kk n).trans ?_
  simp only [i64B, decide_eq_true_eq] at h
  simp only [bif_ki]
  refine congrArg (fun b => kk (V.int .u64 b) []) ?_
  simp only [Bool.cond_eq_ite, decide_eq_true_eq, absI, IntKind.wrap, IntKind.signed, IntKind.bits]
  split
  · simp; omega
  · simp; omega
noncomputable def f36e : Entry Tryd.prog gls := .one 36 false rI (by intro h; cases h <;> rfl) (fun (x : Int) => (i64B x, .int .u64 (absI x))) fun x h => by
  have _ := h
  have hn := f36_run (fun v os => some (v, os)) x h
  exact contract_run (fn := (fb Tryd.f36).1) (c := (fb Tryd.f36).2) mixed (ready8 8) (glE8 8) Tryd.func36 (by kernel_rfl) rfl rfl (by kernel_rfl) hn

noncomputable def es9 : List (Entry Tryd.prog gls) := [f37e, f36e] ++ es8
noncomputable def E9 (n : Nat) : Env := interp fns (look tys) gls mvs (tabOf es9) 100000 n
theorem ready9 (n : Nat) : Ready Tryd.prog (E9 n) := ready_of mixed fnsAll tysOk rfsOk n
theorem glE9 (n : Nat) : (E9 n).gl = gls := by cases n <;> rfl
end Vm.S07

open Go Go.Proofs
namespace Vm.S07
noncomputable abbrev f18cuts : Cuts := look [(5, [0, 1, 4, 6, 7, 8]), (6, [0, 1, 4, 6, 7])]
noncomputable abbrev f18t6 : List Item := itemsAt (fb Tryd.f18).2 6
noncomputable abbrev f18t5 : List Item := itemsAt (fb Tryd.f18).2 5
def f18s0 (a : Int) (b : Int) (n1 : Int) (n2 : Int) (n3 : Int) (x4 : Int × Int) : St := { fr := [(0, V.int IntKind.i64 a), (1, V.int IntKind.i64 b), (4, V.ref 0 0 0 0), (6, V.int IntKind.u64 n1), (7, V.int IntKind.u64 n2), (8, V.int IntKind.u64 n3)], hp := [(0, Ob.var [V.int IntKind.i64 x4.fst, V.int IntKind.i64 x4.snd])], nx := 1 }
def f18s1 (a : Int) (b : Int) (n5 : Int) (n6 : Int) (x7 : Int × Int) : St := { fr := [(0, V.int IntKind.i64 a), (1, V.int IntKind.i64 b), (4, V.ref 0 0 0 0), (6, V.int IntKind.u64 n5), (7, V.int IntKind.u64 n6)], hp := [(0, Ob.var [V.int IntKind.i64 x7.fst, V.int IntKind.i64 x7.snd])], nx := 1 }
theorem f18_go {R : Type} (J : List Item → St → Option R) (kk : V → List Ob → Option R) (a : Int) (b : Int) :
  vseg (E9 8) f18cuts 0 J (vend (E9 8) 0 (fb Tryd.f18).1.results.toList false kk) 100000 true [.code (fb Tryd.f18).2] (start ([V.int IntKind.i64 a, V.int IntKind.i64 b]) ([])) =
  (bif decide (b = (0 : Int)) then
    kk (V.tuple [V.agg [V.int IntKind.i64 (0 : Int), V.int IntKind.i64 (0 : Int)], V.int IntKind.i64 (11 : Int)]) ([])
  else (bif i64B a then
      (bif i64B b then
        J f18t5 (f18s0 (a) (b) (absI a) (absI b) (gcdI (absI a) (absI b)) ((0 : Int), (0 : Int)))
      else none)
    else none)) := by kernel_rfl
theorem f18_0 {R : Type} (J : List Item → St → Option R) (kk : V → List Ob → Option R) (a : Int) (b : Int) (n1 : Int) (n2 : Int) (n3 : Int) (x4 : Int × Int) :
  vseg (E9 8) f18cuts 0 J (vend (E9 8) 0 (fb Tryd.f18).1.results.toList false kk) 100000 true f18t5 (f18s0 a b n1 n2 n3 x4) =
  (bif decide (n3 = (0 : Int)) then
    none
  else (bif decide (n3 = (0 : Int)) then
      none
    else J f18t6 (f18s1 (a) (b) (IntKind.u64.wrap (n1.tdiv n3)) (IntKind.u64.wrap (n2.tdiv n3)) (x4)))) := by kernel_rfl
theorem f18_1 {R : Type} (J : List Item → St → Option R) (kk : V → List Ob → Option R) (a : Int) (b : Int) (n5 : Int) (n6 : Int) (x7 : Int × Int) :
  vseg (E9 8) f18cuts 0 J (vend (E9 8) 0 (fb Tryd.f18).1.results.toList false kk) 100000 true f18t6 (f18s1 a b n5 n6 x7) =
  (bif decide ((1000000000 : Int) < if n6 > n5 then n6 else n5) then
    kk (V.tuple [V.agg [V.int IntKind.i64 (0 : Int), V.int IntKind.i64 (0 : Int)], V.int IntKind.i64 (10 : Int)]) ([])
  else (bif !decide (a < (0 : Int)) == decide (b < (0 : Int)) then
      kk (V.tuple [V.agg [V.int IntKind.i64 (IntKind.i64.wrap ((0 : Int) - IntKind.i64.wrap n5)), V.int IntKind.i64 (IntKind.i64.wrap n6)], V.int IntKind.i64 (0 : Int)]) ([])
    else kk (V.tuple [V.agg [V.int IntKind.i64 (IntKind.i64.wrap n5), V.int IntKind.i64 (IntKind.i64.wrap n6)], V.int IntKind.i64 (0 : Int)]) ([]))) := by kernel_rfl

end Vm.S07

open Go Go.Proofs
namespace Vm.S07
abbrev ratR (x : (Int × Int) × Int) : V := .tuple [enc true rIv x.1, .int .i64 x.2]
theorem wu64 {n : Int} (h₁ : 0 ≤ n) (h₂ : n ≤ 9223372036854775808) : IntKind.wrap .u64 n = n := wrap_small (by simp [IntKind.min, IntKind.signed]; omega) (by simp [IntKind.max, IntKind.signed, IntKind.bits]; omega)
theorem f18_run {R : Type} (kk : V → List Ob → Option R) (a b : Int) (h : (i64B a && i64B b) = true) :
    vrun (E9 8) f18cuts 0 100000 (vend (E9 8) 0 (fb Tryd.f18).1.results.toList false kk) 3 [.code (fb Tryd.f18).2] (start [enc false rI a, enc false rI b] []) = kk (ratR (Rt.of a b)) [] := by
  rw [vrun_succ]
  refine (f18_go _ kk a b).trans ?_
  rw [Bool.and_eq_true] at h
  obtain ⟨ha, hb⟩ := h
  unfold Rt.of
  by_cases h0 : b = 0
  · rw [bif_pos (decide_eq_true h0), if_pos h0]; rfl
  · rw [bif_neg (decide_eq_false h0), bif_pos ha, bif_pos hb, vrun_succ, f18_0, if_neg h0]
    simp only [i64B, decide_eq_true_eq] at ha hb
    have hg := gcdI_pos (a := a) h0
    have da := div_small (absI_nonneg a) hg
    have db := div_small (absI_nonneg b) hg
    have la : absI a ≤ 9223372036854775808 := by simp only [absI]; omega
    have lb : absI b ≤ 9223372036854775808 := by simp only [absI]; omega
    rw [bif_neg (by exact decide_eq_false (by omega)), bif_neg (by exact decide_eq_false (by omega)), Int.tdiv_eq_ediv_of_nonneg (absI_nonneg a), Int.tdiv_eq_ediv_of_nonneg (absI_nonneg b)]
    generalize absI a / gcdI (absI a) (absI b) = n at *
    generalize absI b / gcdI (absI a) (absI b) = d at *
    rw [wu64 (n := n) (by omega) (by omega), wu64 (n := d) (by omega) (by omega), vrun_succ, f18_1]
    by_cases hm : (1000000000 : Int) < if d > n then d else n
    · rw [bif_pos (decide_eq_true hm), if_pos hm]; rfl
    · rw [bif_neg (decide_eq_false hm), if_neg hm]
      have hn : n ≤ 1000000000 ∧ d ≤ 1000000000 := by
        split at hm <;> omega
      rw [w64 (n := n) (by omega) (by omega), w64 (n := d) (by omega) (by omega), w64 (n := 0 - n) (by omega) (by omega), Int.zero_sub]
      cases decide (a < 0) == decide (b < 0) <;> rfl
noncomputable def f18e : Entry Tryd.prog gls := .two 18 false rI false rI (by intro h; cases h <;> rfl) (by intro h; cases h <;> rfl) (fun (x : Int) (y : Int) => (i64B x && i64B y, ratR (Rt.of x y))) fun x y h => by
  have _ := h
  have hn := f18_run (fun v os => some (v, os)) x y h
  exact contract_run (fn := (fb Tryd.f18).1) (c := (fb Tryd.f18).2) mixed (ready9 8) (glE9 8) Tryd.func18 (by kernel_rfl) rfl rfl (by kernel_rfl) hn

noncomputable def es10 : List (Entry Tryd.prog gls) := [f18e] ++ es9 ++ es2
noncomputable def E10 (n : Nat) : Env := interp fns (look tys) gls mvs (tabOf es10) 100000 n
theorem ready10 (n : Nat) : Ready Tryd.prog (E10 n) := ready_of mixed fnsAll tysOk rfsOk n
theorem glE10 (n : Nat) : (E10 n).gl = gls := by cases n <;> rfl
end Vm.S07

open Go Go.Proofs
namespace Vm.S07
noncomputable abbrev f77cuts : Cuts := look [(5, [1, 2, 5, 6]), (7, [2, 5, 6])]
noncomputable abbrev f77t7 : List Item := itemsAt (fb Tryd.f77).2 7
noncomputable abbrev f77t5 : List Item := itemsAt (fb Tryd.f77).2 5
def f77s0 (n2 : Int) (n3 : Int) (x4 : Int × Int × Int × Int) (x5 : Int × Int) : St := { fr := [(1, V.ref 0 0 0 0), (2, V.ref 1 0 0 0), (5, V.int IntKind.i64 n2), (6, V.int IntKind.i64 n3)], hp := [(0, Ob.var [V.int IntKind.i64 x4.fst, V.int IntKind.i64 x4.snd.fst, V.int IntKind.i64 x4.snd.snd.fst, V.int IntKind.i64 x4.snd.snd.snd]), (1, Ob.var [V.int IntKind.i64 x5.fst, V.int IntKind.i64 x5.snd])], nx := 2 }
def f77s1 (n6 : Int) (n7 : Int) (x8 : Int × Int) : St := { fr := [(2, V.ref 0 0 0 0), (5, V.int IntKind.i64 n6), (6, V.int IntKind.i64 n7)], hp := [(0, Ob.var [V.int IntKind.i64 x8.fst, V.int IntKind.i64 x8.snd])], nx := 1 }
theorem f77_go {R : Type} (J : List Item → St → Option R) (kk : V → List Ob → Option R) (v : Int × Int × Int × Int) :
  vseg (E10 8) f77cuts 0 J (vend (E10 8) 0 (fb Tryd.f77).1.results.toList false kk) 100000 true [.code (fb Tryd.f77).2] (start ([enc true rVal v]) ([])) =
  (bif !Vl.right v then
    kk (V.tuple [V.agg [V.int IntKind.i64 (0 : Int), V.int IntKind.i64 (0 : Int)], V.int IntKind.i64 (40 : Int)]) ([])
  else (match idx glDotted v.snd.fst with
      | some y1 => (bif decide (v.fst < (0 : Int)) then
        none
      else J f77t5 (f77s0 (y1.fst) (IntKind.i64.wrap (y1.snd * (2 : Int) ^ min (Int.toNat v.fst) IntKind.i64.bits)) (v) ((0 : Int), (0 : Int))))
      | none => none)) := by kernel_rfl
theorem f77_0 {R : Type} (J : List Item → St → Option R) (kk : V → List Ob → Option R) (n2 : Int) (n3 : Int) (x4 : Int × Int × Int × Int) (x5 : Int × Int) :
  vseg (E10 8) f77cuts 0 J (vend (E10 8) 0 (fb Tryd.f77).1.results.toList false kk) 100000 true f77t5 (f77s0 n2 n3 x4 x5) =
  (bif decide ((0 : Int) < x4.snd.snd.fst) then
    J f77t7 (f77s1 (IntKind.i64.wrap (n2 * x4.snd.snd.snd)) (IntKind.i64.wrap (n3 * x4.snd.snd.fst)) (x5))
  else J f77t7 (f77s1 (n2) (n3) (x5))) := by kernel_rfl
theorem f77_1 {R : Type} (J : List Item → St → Option R) (kk : V → List Ob → Option R) (n6 : Int) (n7 : Int) (x8 : Int × Int) :
  vseg (E10 8) f77cuts 0 J (vend (E10 8) 0 (fb Tryd.f77).1.results.toList false kk) 100000 true f77t7 (f77s1 n6 n7 x8) =
  (bif i64B n6 && i64B n7 then
    kk (V.tuple [V.agg [V.int IntKind.i64 (Rt.of n6 n7).fst.fst, V.int IntKind.i64 (Rt.of n6 n7).fst.snd], V.int IntKind.i64 (Rt.of n6 n7).snd]) ([])
  else none) := by kernel_rfl

end Vm.S07

open Go Go.Proofs
namespace Vm.S07
theorem f77_run {R : Type} (kk : V → List Ob → Option R) (v : Vl) :
    vrun (E10 8) f77cuts 0 100000 (vend (E10 8) 0 (fb Tryd.f77).1.results.toList false kk) 3 [.code (fb Tryd.f77).2] (start [enc true rVal v] []) = kk (ratR (Vl.len v)) [] := by
  rw [vrun_succ, f77_go]
  unfold Vl.len
  cases hr : Vl.right v with
  | false => rfl
  | true =>
    rw [bif_neg (by rfl), if_pos rfl]
    have h := hr
    simp only [Vl.right, decide_eq_true_eq] at h
    obtain ⟨h1, h2, h3, h4, h5⟩ := h
    have hd : idx glDotted v.snd.fst = some (if v.2.1 = 0 then 1 else if v.2.1 = 1 then 3 else 7, if v.2.1 = 0 then 1 else if v.2.1 = 1 then 2 else 4) := by
      have : v.2.1 = 0 ∨ v.2.1 = 1 ∨ v.2.1 = 2 := by omega
      rcases this with e | e | e <;> rw [e] <;> rfl
    rw [hd]
    dsimp only
    rw [bif_neg (by exact decide_eq_false (by omega)), vrun_succ, f77_0]
    generalize hN : (if v.2.1 = 0 then 1 else if v.2.1 = 1 then 3 else 7 : Int) = N
    generalize hD : (if v.2.1 = 0 then 1 else if v.2.1 = 1 then 2 else 4 : Int) = D
    have bN : 1 ≤ N ∧ N ≤ 7 := by rw [← hN]; (repeat' split) <;> omega
    have bD : 1 ≤ D ∧ D ≤ 4 := by rw [← hD]; (repeat' split) <;> omega
    have hp : (2 : Int) ^ min (Int.toNat v.fst) IntKind.i64.bits = 2 ^ v.1.toNat := by
      rw [Nat.min_eq_left (by simp [IntKind.bits]; omega)]
    have bp : 1 ≤ (2 : Int) ^ v.1.toNat ∧ (2 : Int) ^ v.1.toNat ≤ 64 := by
      have : v.1.toNat = 0 ∨ v.1.toNat = 1 ∨ v.1.toNat = 2 ∨ v.1.toNat = 3 ∨ v.1.toNat = 4 ∨ v.1.toNat = 5 ∨ v.1.toNat = 6 := by omega
      rcases this with e | e | e | e | e | e | e <;> rw [e] <;> decide
    rw [hp]
    generalize (2 : Int) ^ v.1.toNat = p at *
    have bDp : 1 ≤ D * p ∧ D * p ≤ 256 := by
      have : D = 1 ∨ D = 2 ∨ D = 3 ∨ D = 4 := by omega
      rcases this with rfl | rfl | rfl | rfl <;> omega
    rw [w64 (n := D * p) (by omega) (by omega)]
    generalize D * p = q at *
    by_cases h0 : 0 < v.2.2.1
    · have b15 : 2 ≤ v.2.2.1 ∧ v.2.2.1 ≤ 15 ∧ 1 ≤ v.2.2.2 ∧ v.2.2.2 ≤ 15 := by omega
      have m1 : 0 ≤ N * v.2.2.2 ∧ N * v.2.2.2 ≤ 105 := by
        have : N = 1 ∨ N = 2 ∨ N = 3 ∨ N = 4 ∨ N = 5 ∨ N = 6 ∨ N = 7 := by omega
        rcases this with rfl | rfl | rfl | rfl | rfl | rfl | rfl <;> omega
      have m2 : 0 ≤ q * v.2.2.1 ∧ q * v.2.2.1 ≤ 3840 := by
        generalize v.2.2.1 = z at *
        have : z = 2 ∨ z = 3 ∨ z = 4 ∨ z = 5 ∨ z = 6 ∨ z = 7 ∨ z = 8 ∨ z = 9 ∨ z = 10 ∨ z = 11 ∨ z = 12 ∨ z = 13 ∨ z = 14 ∨ z = 15 := by omega
        rcases this with rfl | rfl | rfl | rfl | rfl | rfl | rfl | rfl | rfl | rfl | rfl | rfl | rfl | rfl <;> omega
      rw [bif_pos (decide_eq_true h0), if_pos h0, w64 (n := N * v.2.2.2) (by omega) (by omega), w64 (n := q * v.2.2.1) (by omega) (by omega), vrun_succ, f77_1]
      rw [bif_pos (by rw [Bool.and_eq_true]; exact ⟨decide_eq_true (by omega), decide_eq_true (by omega)⟩)]; rfl
    · rw [bif_neg (decide_eq_false h0), if_neg h0, vrun_succ, f77_1]
      rw [bif_pos (by rw [Bool.and_eq_true]; exact ⟨decide_eq_true (by omega), decide_eq_true (by omega)⟩)]; rfl

/-! #### up -/
abbrev evR (x : Ev × Int) : V := .tuple [enc true rEvent x.1, .int .i64 x.2]
abbrev zEvV : V := V.agg [V.int IntKind.i64 (0 : Int), V.nilsl, V.nilsl, V.int IntKind.i64 (0 : Int), V.int IntKind.i64 (0 : Int), V.int IntKind.i64 (0 : Int), V.int IntKind.i64 (0 : Int), V.nilsl, V.str []]
theorem canon_zEv (e : Int) : canon2 true rEvent (.tuple [zEvV, .int .i64 e]) = some (zEv, .int .i64 e) := by rfl

end Vm.S07

open Go Go.Proofs
namespace Vm.S07
noncomputable def f77e : Entry Tryd.prog gls := .one 77 true rVal (by intro h; cases h <;> rfl) (fun (x : Vl) => (true, ratR (Vl.len x))) fun x h => by
  have _ := h
  have hn := f77_run (fun v os => some (v, os)) x
  exact contract_run (fn := (fb Tryd.f77).1) (c := (fb Tryd.f77).2) mixed (ready10 8) (glE10 8) Tryd.func77 (by kernel_rfl) rfl rfl (by kernel_rfl) hn

noncomputable def es11 : List (Entry Tryd.prog gls) := [f77e] ++ es10
noncomputable def E11 (n : Nat) : Env := interp fns (look tys) gls mvs (tabOf es11) 100000 n
theorem ready11 (n : Nat) : Ready Tryd.prog (E11 n) := ready_of mixed fnsAll tysOk rfsOk n
theorem glE11 (n : Nat) : (E11 n).gl = gls := by cases n <;> rfl
end Vm.S07

