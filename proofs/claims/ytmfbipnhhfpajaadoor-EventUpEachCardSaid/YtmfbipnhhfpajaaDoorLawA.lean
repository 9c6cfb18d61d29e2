/- The slices' equality, the events' equality in the program and in the document's answer, and the examples, as runs of the value machine. -/
import Derived.Test.YtmfbipnhhfpajaaDoorEnv
import Derived.Test.YtmfbipnhhfpajaaDoorVmE
import Derived.KernelRfl
set_option maxRecDepth 100000
open Go Go.Proofs
namespace Vm.S06
noncomputable abbrev f33cuts : Cuts := look [(4, [0, 1, 12, 13])]
noncomputable abbrev f33t4 : List Item := itemsAt (fb Tryd.f33).2 4
def f33s0 (xs : List Int) (ys : List Int) (n1 : Int) : St := { fr := [(0, V.sl rI xs), (1, V.sl rI ys), (12, V.int IntKind.i64 (↑(List.length xs) : Int)), (13, V.int IntKind.i64 n1)], hp := [], nx := 0 }
theorem f33_go {R : Type} (J : List Item → St → Option R) (kk : V → List Ob → Option R) (xs : List Int) (ys : List Int) :
  vseg (E 8) f33cuts 0 J (vend (E 8) 0 (fb Tryd.f33).1.results.toList false kk) 100000 true [.code (fb Tryd.f33).2] (start ([V.sl rI xs, V.sl rI ys]) ([])) =
  (bif !decide ((↑(List.length xs) : Int) = (↑(List.length ys) : Int)) then
    kk (V.bool false) ([])
  else J f33t4 (f33s0 (xs) (ys) (Int.ofNat 0))) := by kernel_rfl
theorem f33_0 {R : Type} (J : List Item → St → Option R) (kk : V → List Ob → Option R) (xs : List Int) (ys : List Int) (n1 : Int) :
  vseg (E 8) f33cuts 0 J (vend (E 8) 0 (fb Tryd.f33).1.results.toList false kk) 100000 true f33t4 (f33s0 xs ys n1) =
  (bif decide (n1 < (↑(List.length xs) : Int)) then
    (match idx xs n1 with
      | some y2 => (match idx ys n1 with
        | some y3 => (bif !decide (y2 = y3) then
          kk (V.bool false) ([])
        else J f33t4 (f33s0 (xs) (ys) (IntKind.wrap IntKind.i64 (n1 + 1))))
        | none => none)
      | none => none)
  else kk (V.bool true) ([])) := by kernel_rfl

noncomputable abbrev f32cuts : Cuts := look [(4, [0, 1, 12, 13])]
noncomputable abbrev f32t4 : List Item := itemsAt (fb Tryd.f32).2 4
def f32s0 (xs : List Bool) (ys : List Bool) (n1 : Int) : St := { fr := [(0, V.sl rB xs), (1, V.sl rB ys), (12, V.int IntKind.i64 (↑(List.length xs) : Int)), (13, V.int IntKind.i64 n1)], hp := [], nx := 0 }
theorem f32_go {R : Type} (J : List Item → St → Option R) (kk : V → List Ob → Option R) (xs : List Bool) (ys : List Bool) :
  vseg (E 8) f32cuts 0 J (vend (E 8) 0 (fb Tryd.f32).1.results.toList false kk) 100000 true [.code (fb Tryd.f32).2] (start ([V.sl rB xs, V.sl rB ys]) ([])) =
  (bif !decide ((↑(List.length xs) : Int) = (↑(List.length ys) : Int)) then
    kk (V.bool false) ([])
  else J f32t4 (f32s0 (xs) (ys) (Int.ofNat 0))) := by kernel_rfl
theorem f32_0 {R : Type} (J : List Item → St → Option R) (kk : V → List Ob → Option R) (xs : List Bool) (ys : List Bool) (n1 : Int) :
  vseg (E 8) f32cuts 0 J (vend (E 8) 0 (fb Tryd.f32).1.results.toList false kk) 100000 true f32t4 (f32s0 xs ys n1) =
  (bif decide (n1 < (↑(List.length xs) : Int)) then
    (match idx xs n1 with
      | some y2 => (match idx ys n1 with
        | some y3 => (bif !y2 == y3 then
          kk (V.bool false) ([])
        else J f32t4 (f32s0 (xs) (ys) (IntKind.wrap IntKind.i64 (n1 + 1))))
        | none => none)
      | none => none)
  else kk (V.bool true) ([])) := by kernel_rfl

noncomputable abbrev f31cuts : Cuts := look [(4, [0, 1, 12, 13])]
noncomputable abbrev f31t4 : List Item := itemsAt (fb Tryd.f31).2 4
def f31s0 (xs : List (Int × Int × Int)) (ys : List (Int × Int × Int)) (n1 : Int) : St := { fr := [(0, V.sl rPitch xs), (1, V.sl rPitch ys), (12, V.int IntKind.i64 (↑(List.length xs) : Int)), (13, V.int IntKind.i64 n1)], hp := [], nx := 0 }
theorem f31_go {R : Type} (J : List Item → St → Option R) (kk : V → List Ob → Option R) (xs : List (Int × Int × Int)) (ys : List (Int × Int × Int)) :
  vseg (E 8) f31cuts 0 J (vend (E 8) 0 (fb Tryd.f31).1.results.toList false kk) 100000 true [.code (fb Tryd.f31).2] (start ([V.sl rPitch xs, V.sl rPitch ys]) ([])) =
  (bif !decide ((↑(List.length xs) : Int) = (↑(List.length ys) : Int)) then
    kk (V.bool false) ([])
  else J f31t4 (f31s0 (xs) (ys) (Int.ofNat 0))) := by kernel_rfl
theorem f31_0 {R : Type} (J : List Item → St → Option R) (kk : V → List Ob → Option R) (xs : List (Int × Int × Int)) (ys : List (Int × Int × Int)) (n1 : Int) :
  vseg (E 8) f31cuts 0 J (vend (E 8) 0 (fb Tryd.f31).1.results.toList false kk) 100000 true f31t4 (f31s0 xs ys n1) =
  (bif decide (n1 < (↑(List.length xs) : Int)) then
    (match idx xs n1 with
      | some y2 => (match idx ys n1 with
        | some y3 => (bif !(decide (Prod.fst y2 = Prod.fst y3) && (decide (Prod.fst (Prod.snd y2) = Prod.fst (Prod.snd y3)) && decide (Prod.snd (Prod.snd y2) = Prod.snd (Prod.snd y3)))) then
          kk (V.bool false) ([])
        else J f31t4 (f31s0 (xs) (ys) (IntKind.wrap IntKind.i64 (n1 + 1))))
        | none => none)
      | none => none)
  else kk (V.bool true) ([])) := by kernel_rfl

noncomputable abbrev f15cuts : Cuts := fun _ => none
theorem f15_go {R : Type} (J : List Item → St → Option R) (kk : V → List Ob → Option R) (k : Int) (b : Int) (d : Int) (n : Int) (m : Int) (ps : List (Int × Int × Int)) (ts : List Bool) (ms : List Int) (w : List UInt8) :
  vseg (E 8) f15cuts 0 J (vend (E 8) 0 (fb Tryd.f15).1.results.toList false kk) 100000 true [.code (fb Tryd.f15).2] (start ([V.agg [V.int IntKind.i64 k, V.sl rPitch ps, V.sl rB ts, V.int IntKind.i64 b, V.int IntKind.i64 d, V.int IntKind.i64 n, V.int IntKind.i64 m, V.sl rI ms, V.str w]]) ([])) =
  (bif decide ((↑(List.length ps) : Int) ≤ 20) then
    (bif decide ((↑(List.length ts) : Int) ≤ 20) then
      (bif decide ((↑(List.length ms) : Int) ≤ 20) then
        kk (V.bool (decide ((↑(List.length w) : Int) ≤ 100))) ([])
      else kk (V.bool false) ([]))
    else kk (V.bool false) ([]))
  else kk (V.bool false) ([])) := by kernel_rfl

end Vm.S06

open Go Go.Proofs
namespace Vm.S06


theorem f33_loop {R : Type} (kk : V → List Ob → Option R) (xs ys : List Int) (hl : xs.length = ys.length) (hb : xs.length < 4611686018427387904) : (d i : Nat) → i + d = xs.length →
    vrun (E 8) f33cuts 0 100000 (vend (E 8) 0 (fb Tryd.f33).1.results.toList false kk) (d + 1) f33t4 (f33s0 xs ys i) = kk (.bool (decide (xs.drop i = ys.drop i))) []
  | 0, i, h => by
    rw [vrun_succ, f33_0, bif_neg (by simp; omega)]
    rw [List.drop_eq_nil_of_le (by omega), List.drop_eq_nil_of_le (by omega)]
    rfl
  | d + 1, i, h => by
    have hx : i < xs.length := by omega
    have hy : i < ys.length := by omega
    rw [vrun_succ, f33_0, bif_pos (by simp; omega), idx_nat, idx_nat, List.getElem?_eq_getElem hx, List.getElem?_eq_getElem hy]
    dsimp only
    rw [List.drop_eq_getElem_cons hx, List.drop_eq_getElem_cons hy]
    by_cases he : xs[i] = ys[i]
    · rw [bif_neg (by simp [he]), wrap_succ (by omega), f33_loop kk xs ys hl hb d (i + 1) (by omega)]
      simp only [he, List.cons.injEq, true_and]
    · rw [bif_pos (by simp [he])]
      simp only [he, List.cons.injEq, false_and, decide_false]
theorem f33_run {R : Type} (kk : V → List Ob → Option R) (xs ys : List Int) (hb : xs.length < 4611686018427387904) :
    ∃ n, vrun (E 8) f33cuts 0 100000 (vend (E 8) 0 (fb Tryd.f33).1.results.toList false kk) n [.code (fb Tryd.f33).2] (start [.sl rI xs, .sl rI ys] []) = kk (.bool (decide (xs = ys))) [] := by
  by_cases hl : xs.length = ys.length
  · refine ⟨xs.length + 1 + 1, ?_⟩
    rw [vrun_succ, f33_go, bif_neg (by simp [hl])]
    exact f33_loop kk xs ys hl hb xs.length 0 (by omega)
  · refine ⟨1, ?_⟩
    rw [vrun_succ, f33_go, bif_pos (by simp; omega)]
    have : xs ≠ ys := fun e => hl (by rw [e])
    simp [this]


theorem f32_loop {R : Type} (kk : V → List Ob → Option R) (xs ys : List Bool) (hl : xs.length = ys.length) (hb : xs.length < 4611686018427387904) : (d i : Nat) → i + d = xs.length →
    vrun (E 8) f32cuts 0 100000 (vend (E 8) 0 (fb Tryd.f32).1.results.toList false kk) (d + 1) f32t4 (f32s0 xs ys i) = kk (.bool (decide (xs.drop i = ys.drop i))) []
  | 0, i, h => by
    rw [vrun_succ, f32_0, bif_neg (by simp; omega)]
    rw [List.drop_eq_nil_of_le (by omega), List.drop_eq_nil_of_le (by omega)]
    rfl
  | d + 1, i, h => by
    have hx : i < xs.length := by omega
    have hy : i < ys.length := by omega
    rw [vrun_succ, f32_0, bif_pos (by simp; omega), idx_nat, idx_nat, List.getElem?_eq_getElem hx, List.getElem?_eq_getElem hy]
    dsimp only
    rw [List.drop_eq_getElem_cons hx, List.drop_eq_getElem_cons hy]
    by_cases he : xs[i] = ys[i]
    · rw [bif_neg (by simp [he]), wrap_succ (by omega), f32_loop kk xs ys hl hb d (i + 1) (by omega)]
      simp only [he, List.cons.injEq, true_and]
    · rw [bif_pos (by simp [he])]
      simp only [he, List.cons.injEq, false_and, decide_false]
theorem f32_run {R : Type} (kk : V → List Ob → Option R) (xs ys : List Bool) (hb : xs.length < 4611686018427387904) :
    ∃ n, vrun (E 8) f32cuts 0 100000 (vend (E 8) 0 (fb Tryd.f32).1.results.toList false kk) n [.code (fb Tryd.f32).2] (start [.sl rB xs, .sl rB ys] []) = kk (.bool (decide (xs = ys))) [] := by
  by_cases hl : xs.length = ys.length
  · refine ⟨xs.length + 1 + 1, ?_⟩
    rw [vrun_succ, f32_go, bif_neg (by simp [hl])]
    exact f32_loop kk xs ys hl hb xs.length 0 (by omega)
  · refine ⟨1, ?_⟩
    rw [vrun_succ, f32_go, bif_pos (by simp; omega)]
    have : xs ≠ ys := fun e => hl (by rw [e])
    simp [this]


theorem f31_loop {R : Type} (kk : V → List Ob → Option R) (xs ys : List (Int × Int × Int)) (hl : xs.length = ys.length) (hb : xs.length < 4611686018427387904) : (d i : Nat) → i + d = xs.length →
    vrun (E 8) f31cuts 0 100000 (vend (E 8) 0 (fb Tryd.f31).1.results.toList false kk) (d + 1) f31t4 (f31s0 xs ys i) = kk (.bool (decide (xs.drop i = ys.drop i))) []
  | 0, i, h => by
    rw [vrun_succ, f31_0, bif_neg (by simp; omega)]
    rw [List.drop_eq_nil_of_le (by omega), List.drop_eq_nil_of_le (by omega)]
    rfl
  | d + 1, i, h => by
    have hx : i < xs.length := by omega
    have hy : i < ys.length := by omega
    rw [vrun_succ, f31_0, bif_pos (by simp; omega), idx_nat, idx_nat, List.getElem?_eq_getElem hx, List.getElem?_eq_getElem hy]
    dsimp only
    rw [List.drop_eq_getElem_cons hx, List.drop_eq_getElem_cons hy]
    by_cases he : xs[i] = ys[i]
    · rw [bif_neg (by rw [p3_eq]; simp [he]), wrap_succ (by omega), f31_loop kk xs ys hl hb d (i + 1) (by omega)]
      simp only [he, List.cons.injEq, true_and]
    · rw [bif_pos (by rw [p3_eq]; simp [he])]
      simp only [he, List.cons.injEq, false_and, decide_false]
theorem f31_run {R : Type} (kk : V → List Ob → Option R) (xs ys : List (Int × Int × Int)) (hb : xs.length < 4611686018427387904) :
    ∃ n, vrun (E 8) f31cuts 0 100000 (vend (E 8) 0 (fb Tryd.f31).1.results.toList false kk) n [.code (fb Tryd.f31).2] (start [.sl rPitch xs, .sl rPitch ys] []) = kk (.bool (decide (xs = ys))) [] := by
  by_cases hl : xs.length = ys.length
  · refine ⟨xs.length + 1 + 1, ?_⟩
    rw [vrun_succ, f31_go, bif_neg (by simp [hl])]
    exact f31_loop kk xs ys hl hb xs.length 0 (by omega)
  · refine ⟨1, ?_⟩
    rw [vrun_succ, f31_go, bif_pos (by simp; omega)]
    have : xs ≠ ys := fun e => hl (by rw [e])
    simp [this]

end Vm.S06

open Go Go.Proofs
namespace Vm.S06
abbrev srI : Ks := .cons (.sl rI) .nil
abbrev srB : Ks := .cons (.sl rB) .nil
abbrev srP : Ks := .cons (.sl rPitch) .nil


def f33e : Entry Tryd.prog gls := .two 33 false srI false srI (by intro h; cases h <;> rfl) (by intro h; cases h <;> rfl) (fun (x : List Int) (y : List Int) => (decide (x.length < 4611686018427387904), .bool (decide (x = y)))) fun x y h => by
  obtain ⟨n, hn⟩ := f33_run (fun v os => some (v, os)) x y (of_decide_eq_true h)
  exact contract_run (fn := (fb Tryd.f33).1) (c := (fb Tryd.f33).2) mixed (ready 8) (glE 8) Tryd.func33 (by kernel_rfl) rfl rfl (by kernel_rfl) hn


def f32e : Entry Tryd.prog gls := .two 32 false srB false srB (by intro h; cases h <;> rfl) (by intro h; cases h <;> rfl) (fun (x : List Bool) (y : List Bool) => (decide (x.length < 4611686018427387904), .bool (decide (x = y)))) fun x y h => by
  obtain ⟨n, hn⟩ := f32_run (fun v os => some (v, os)) x y (of_decide_eq_true h)
  exact contract_run (fn := (fb Tryd.f32).1) (c := (fb Tryd.f32).2) mixed (ready 8) (glE 8) Tryd.func32 (by kernel_rfl) rfl rfl (by kernel_rfl) hn


def f31e : Entry Tryd.prog gls := .two 31 false srP false srP (by intro h; cases h <;> rfl) (by intro h; cases h <;> rfl) (fun (x : List (Int × Int × Int)) (y : List (Int × Int × Int)) => (decide (x.length < 4611686018427387904), .bool (decide (x = y)))) fun x y h => by
  obtain ⟨n, hn⟩ := f31_run (fun v os => some (v, os)) x y (of_decide_eq_true h)
  exact contract_run (fn := (fb Tryd.f31).1) (c := (fb Tryd.f31).2) mixed (ready 8) (glE 8) Tryd.func31 (by kernel_rfl) rfl rfl (by kernel_rfl) hn

noncomputable def es1 : List (Entry Tryd.prog gls) := [f31e, f32e, f33e]
noncomputable def E1 (n : Nat) : Env := interp fns (look tys) gls mvs (tabOf es1) 100000 n
theorem ready1 (n : Nat) : Ready Tryd.prog (E1 n) := ready_of mixed fnsAll tysOk n
theorem glE1 (n : Nat) : (E1 n).gl = gls := by cases n <;> rfl
end Vm.S06

open Go Go.Proofs
namespace Vm.S06
noncomputable abbrev f16cuts : Cuts := fun _ => none
theorem f16_go {R : Type} (J : List Item → St → Option R) (kk : V → List Ob → Option R) (x : Int × List (Int × Int × Int) × List Bool × Int × Int × Int × Int × List Int × List UInt8) (y : Int × List (Int × Int × Int) × List Bool × Int × Int × Int × Int × List Int × List UInt8) :
  vseg (E1 8) f16cuts 0 J (vend (E1 8) 0 (fb Tryd.f16).1.results.toList false kk) 100000 true [.code (fb Tryd.f16).2] (start ([enc true rEvent x, enc true rEvent y]) ([])) =
  (bif decide (x.fst = y.fst) then
    (bif decide (x.snd.snd.snd.fst = y.snd.snd.snd.fst) && (decide (x.snd.snd.snd.snd.fst = y.snd.snd.snd.snd.fst) && (decide (x.snd.snd.snd.snd.snd.fst = y.snd.snd.snd.snd.snd.fst) && decide (x.snd.snd.snd.snd.snd.snd.fst = y.snd.snd.snd.snd.snd.snd.fst))) then
      (bif x.snd.snd.snd.snd.snd.snd.snd.snd == y.snd.snd.snd.snd.snd.snd.snd.snd then
        (bif decide (List.length x.snd.fst < 4611686018427387904) then
          (bif decide (x.snd.fst = y.snd.fst) then
            (bif decide (List.length x.snd.snd.fst < 4611686018427387904) then
              (bif decide (x.snd.snd.fst = y.snd.snd.fst) then
                (bif decide (List.length x.snd.snd.snd.snd.snd.snd.snd.fst < 4611686018427387904) then
                  kk (V.bool (decide (x.snd.snd.snd.snd.snd.snd.snd.fst = y.snd.snd.snd.snd.snd.snd.snd.fst))) ([])
                else none)
              else kk (V.bool false) ([]))
            else none)
          else kk (V.bool false) ([]))
        else none)
      else kk (V.bool false) ([]))
    else kk (V.bool false) ([]))
  else kk (V.bool false) ([])) := by kernel_rfl

noncomputable abbrev f17cuts : Cuts := look [(4, [2, 3, 5]), (9, [2, 3, 6]), (14, [2, 3, 7])]
noncomputable abbrev f17t14 : List Item := itemsAt (fb Tryd.f17).2 14
noncomputable abbrev f17t9 : List Item := itemsAt (fb Tryd.f17).2 9
noncomputable abbrev f17t4 : List Item := itemsAt (fb Tryd.f17).2 4
def f17s0 (n1 : Int) (x2 : Int × List (Int × Int × Int) × List Bool × Int × Int × Int × Int × List Int × List UInt8) (x3 : Int × List (Int × Int × Int) × List Bool × Int × Int × Int × Int × List Int × List UInt8) : St := { fr := [(2, V.ref 0 0 0 0), (3, V.ref 1 0 0 0), (5, V.int IntKind.i64 n1)], hp := [(0, Ob.var [V.int IntKind.i64 x2.fst, V.sl rPitch x2.snd.fst, V.sl rB x2.snd.snd.fst, V.int IntKind.i64 x2.snd.snd.snd.fst, V.int IntKind.i64 x2.snd.snd.snd.snd.fst, V.int IntKind.i64 x2.snd.snd.snd.snd.snd.fst, V.int IntKind.i64 x2.snd.snd.snd.snd.snd.snd.fst, V.sl rI x2.snd.snd.snd.snd.snd.snd.snd.fst, V.str x2.snd.snd.snd.snd.snd.snd.snd.snd]), (1, Ob.var [V.int IntKind.i64 x3.fst, V.sl rPitch x3.snd.fst, V.sl rB x3.snd.snd.fst, V.int IntKind.i64 x3.snd.snd.snd.fst, V.int IntKind.i64 x3.snd.snd.snd.snd.fst, V.int IntKind.i64 x3.snd.snd.snd.snd.snd.fst, V.int IntKind.i64 x3.snd.snd.snd.snd.snd.snd.fst, V.sl rI x3.snd.snd.snd.snd.snd.snd.snd.fst, V.str x3.snd.snd.snd.snd.snd.snd.snd.snd])], nx := 2 }
def f17s1 (n6 : Int) (x7 : Int × List (Int × Int × Int) × List Bool × Int × Int × Int × Int × List Int × List UInt8) (x8 : Int × List (Int × Int × Int) × List Bool × Int × Int × Int × Int × List Int × List UInt8) : St := { fr := [(2, V.ref 0 0 0 0), (3, V.ref 1 0 0 0), (6, V.int IntKind.i64 n6)], hp := [(0, Ob.var [V.int IntKind.i64 x7.fst, V.sl rPitch x7.snd.fst, V.sl rB x7.snd.snd.fst, V.int IntKind.i64 x7.snd.snd.snd.fst, V.int IntKind.i64 x7.snd.snd.snd.snd.fst, V.int IntKind.i64 x7.snd.snd.snd.snd.snd.fst, V.int IntKind.i64 x7.snd.snd.snd.snd.snd.snd.fst, V.sl rI x7.snd.snd.snd.snd.snd.snd.snd.fst, V.str x7.snd.snd.snd.snd.snd.snd.snd.snd]), (1, Ob.var [V.int IntKind.i64 x8.fst, V.sl rPitch x8.snd.fst, V.sl rB x8.snd.snd.fst, V.int IntKind.i64 x8.snd.snd.snd.fst, V.int IntKind.i64 x8.snd.snd.snd.snd.fst, V.int IntKind.i64 x8.snd.snd.snd.snd.snd.fst, V.int IntKind.i64 x8.snd.snd.snd.snd.snd.snd.fst, V.sl rI x8.snd.snd.snd.snd.snd.snd.snd.fst, V.str x8.snd.snd.snd.snd.snd.snd.snd.snd])], nx := 2 }
def f17s2 (n11 : Int) (x12 : Int × List (Int × Int × Int) × List Bool × Int × Int × Int × Int × List Int × List UInt8) (x13 : Int × List (Int × Int × Int) × List Bool × Int × Int × Int × Int × List Int × List UInt8) : St := { fr := [(2, V.ref 0 0 0 0), (3, V.ref 1 0 0 0), (7, V.int IntKind.i64 n11)], hp := [(0, Ob.var [V.int IntKind.i64 x12.fst, V.sl rPitch x12.snd.fst, V.sl rB x12.snd.snd.fst, V.int IntKind.i64 x12.snd.snd.snd.fst, V.int IntKind.i64 x12.snd.snd.snd.snd.fst, V.int IntKind.i64 x12.snd.snd.snd.snd.snd.fst, V.int IntKind.i64 x12.snd.snd.snd.snd.snd.snd.fst, V.sl rI x12.snd.snd.snd.snd.snd.snd.snd.fst, V.str x12.snd.snd.snd.snd.snd.snd.snd.snd]), (1, Ob.var [V.int IntKind.i64 x13.fst, V.sl rPitch x13.snd.fst, V.sl rB x13.snd.snd.fst, V.int IntKind.i64 x13.snd.snd.snd.fst, V.int IntKind.i64 x13.snd.snd.snd.snd.fst, V.int IntKind.i64 x13.snd.snd.snd.snd.snd.fst, V.int IntKind.i64 x13.snd.snd.snd.snd.snd.snd.fst, V.sl rI x13.snd.snd.snd.snd.snd.snd.snd.fst, V.str x13.snd.snd.snd.snd.snd.snd.snd.snd])], nx := 2 }
theorem f17_go {R : Type} (J : List Item → St → Option R) (kk : V → List Ob → Option R) (x : Int × List (Int × Int × Int) × List Bool × Int × Int × Int × Int × List Int × List UInt8) (y : Int × List (Int × Int × Int) × List Bool × Int × Int × Int × Int × List Int × List UInt8) :
  vseg (E1 8) f17cuts 0 J (vend (E1 8) 0 (fb Tryd.f17).1.results.toList false kk) 100000 true [.code (fb Tryd.f17).2] (start ([enc true rEvent x, enc true rEvent y]) ([])) =
  (bif !decide (x.fst = y.fst) then
    kk (V.bool false) ([])
  else (bif !(decide (x.snd.snd.snd.fst = y.snd.snd.snd.fst) && (decide (x.snd.snd.snd.snd.fst = y.snd.snd.snd.snd.fst) && (decide (x.snd.snd.snd.snd.snd.fst = y.snd.snd.snd.snd.snd.fst) && decide (x.snd.snd.snd.snd.snd.snd.fst = y.snd.snd.snd.snd.snd.snd.fst)))) then
      kk (V.bool false) ([])
    else (bif !x.snd.snd.snd.snd.snd.snd.snd.snd == y.snd.snd.snd.snd.snd.snd.snd.snd then
        kk (V.bool false) ([])
      else (bif !decide ((↑(List.length x.snd.fst) : Int) = (↑(List.length y.snd.fst) : Int)) then
          kk (V.bool false) ([])
        else (bif !decide ((↑(List.length x.snd.snd.fst) : Int) = (↑(List.length y.snd.snd.fst) : Int)) then
            kk (V.bool false) ([])
          else (bif !decide ((↑(List.length x.snd.snd.snd.snd.snd.snd.snd.fst) : Int) = (↑(List.length y.snd.snd.snd.snd.snd.snd.snd.fst) : Int)) then
              kk (V.bool false) ([])
            else J f17t4 (f17s0 (Int.ofNat 0) (x) (y)))))))) := by kernel_rfl
theorem f17_0 {R : Type} (J : List Item → St → Option R) (kk : V → List Ob → Option R) (n1 : Int) (x2 : Int × List (Int × Int × Int) × List Bool × Int × Int × Int × Int × List Int × List UInt8) (x3 : Int × List (Int × Int × Int) × List Bool × Int × Int × Int × Int × List Int × List UInt8) :
  vseg (E1 8) f17cuts 0 J (vend (E1 8) 0 (fb Tryd.f17).1.results.toList false kk) 100000 true f17t4 (f17s0 n1 x2 x3) =
  (bif decide (n1 < (↑x2.snd.fst.length : Int)) then
    (match idx x2.snd.fst n1 with
      | some y4 => (match idx x3.snd.fst n1 with
        | some y5 => (bif !(decide (y4.fst = y5.fst) && (decide (y4.snd.fst = y5.snd.fst) && decide (y4.snd.snd = y5.snd.snd))) then
          kk (V.bool false) ([])
        else J f17t4 (f17s0 (IntKind.i64.wrap (n1 + 1)) (x2) (x3)))
        | none => none)
      | none => none)
  else J f17t9 (f17s1 (Int.ofNat 0) (x2) (x3))) := by kernel_rfl
theorem f17_1 {R : Type} (J : List Item → St → Option R) (kk : V → List Ob → Option R) (n6 : Int) (x7 : Int × List (Int × Int × Int) × List Bool × Int × Int × Int × Int × List Int × List UInt8) (x8 : Int × List (Int × Int × Int) × List Bool × Int × Int × Int × Int × List Int × List UInt8) :
  vseg (E1 8) f17cuts 0 J (vend (E1 8) 0 (fb Tryd.f17).1.results.toList false kk) 100000 true f17t9 (f17s1 n6 x7 x8) =
  (bif decide (n6 < (↑x7.snd.snd.fst.length : Int)) then
    (match idx x7.snd.snd.fst n6 with
      | some y9 => (match idx x8.snd.snd.fst n6 with
        | some y10 => (bif !y9 == y10 then
          kk (V.bool false) ([])
        else J f17t9 (f17s1 (IntKind.i64.wrap (n6 + 1)) (x7) (x8)))
        | none => none)
      | none => none)
  else J f17t14 (f17s2 (Int.ofNat 0) (x7) (x8))) := by kernel_rfl
theorem f17_2 {R : Type} (J : List Item → St → Option R) (kk : V → List Ob → Option R) (n11 : Int) (x12 : Int × List (Int × Int × Int) × List Bool × Int × Int × Int × Int × List Int × List UInt8) (x13 : Int × List (Int × Int × Int) × List Bool × Int × Int × Int × Int × List Int × List UInt8) :
  vseg (E1 8) f17cuts 0 J (vend (E1 8) 0 (fb Tryd.f17).1.results.toList false kk) 100000 true f17t14 (f17s2 n11 x12 x13) =
  (bif decide (n11 < (↑x12.snd.snd.snd.snd.snd.snd.snd.fst.length : Int)) then
    (match idx x12.snd.snd.snd.snd.snd.snd.snd.fst n11 with
      | some y14 => (match idx x13.snd.snd.snd.snd.snd.snd.snd.fst n11 with
        | some y15 => (bif !decide (y14 = y15) then
          kk (V.bool false) ([])
        else J f17t14 (f17s2 (IntKind.i64.wrap (n11 + 1)) (x12) (x13)))
        | none => none)
      | none => none)
  else kk (V.bool true) ([])) := by kernel_rfl

end Vm.S06

open Go Go.Proofs
namespace Vm.S06
noncomputable abbrev f34acuts : Cuts := fun _ => none
theorem f34a_go {R : Type} (J : List Item → St → Option R) (kk : V → List Ob → Option R) (x : Bool) (xs : List Bool) :
  vseg (E 8) f34acuts 0 J (vend (E 8) 0 (fb Tryd.f34).1.results.toList false kk) 100000 true [.code (fb Tryd.f34).2] (start ([V.sl rB
    (have this := x :: xs;
    this)]) ([])) =
  (bif decide
  (((List.replicate 0 false).length +
        (have this := x :: xs;
          this).length) *
      1 ≤
    bytesMost) then
    kk (V.sl (Ks.cons K.bool Ks.nil)
  (List.replicate 0 false ++
    have this := x :: xs;
    this)) ([])
  else none) := by kernel_rfl

noncomputable abbrev f34bcuts : Cuts := fun _ => none
theorem f34b_go {R : Type} (J : List Item → St → Option R) (kk : V → List Ob → Option R) :
  vseg (E 8) f34bcuts 0 J (vend (E 8) 0 (fb Tryd.f34).1.results.toList false kk) 100000 true [.code (fb Tryd.f34).2] (start ([V.nilsl]) ([])) =
  kk (V.nilsl) ([]) := by kernel_rfl

noncomputable abbrev f34ccuts : Cuts := fun _ => none
theorem f34c_go {R : Type} (J : List Item → St → Option R) (kk : V → List Ob → Option R) :
  vseg (E 8) f34ccuts 0 J (vend (E 8) 0 (fb Tryd.f34).1.results.toList false kk) 100000 true [.code (fb Tryd.f34).2] (start ([V.emp rB false]) ([])) =
  kk (V.sl (Ks.cons K.bool Ks.nil) []) ([]) := by kernel_rfl

noncomputable abbrev f35acuts : Cuts := fun _ => none
theorem f35a_go {R : Type} (J : List Item → St → Option R) (kk : V → List Ob → Option R) (x : Int) (xs : List Int) :
  vseg (E 8) f35acuts 0 J (vend (E 8) 0 (fb Tryd.f35).1.results.toList false kk) 100000 true [.code (fb Tryd.f35).2] (start ([V.sl rI
    (have this := x :: xs;
    this)]) ([])) =
  (bif decide
  (((List.replicate 0 (Int.ofNat 0)).length +
        (have this := x :: xs;
          this).length) *
      8 ≤
    bytesMost) then
    kk (V.sl (Ks.cons (K.int IntKind.i64) Ks.nil)
  (List.replicate 0 (Int.ofNat 0) ++
    have this := x :: xs;
    this)) ([])
  else none) := by kernel_rfl

noncomputable abbrev f35bcuts : Cuts := fun _ => none
theorem f35b_go {R : Type} (J : List Item → St → Option R) (kk : V → List Ob → Option R) :
  vseg (E 8) f35bcuts 0 J (vend (E 8) 0 (fb Tryd.f35).1.results.toList false kk) 100000 true [.code (fb Tryd.f35).2] (start ([V.nilsl]) ([])) =
  kk (V.nilsl) ([]) := by kernel_rfl

noncomputable abbrev f35ccuts : Cuts := fun _ => none
theorem f35c_go {R : Type} (J : List Item → St → Option R) (kk : V → List Ob → Option R) :
  vseg (E 8) f35ccuts 0 J (vend (E 8) 0 (fb Tryd.f35).1.results.toList false kk) 100000 true [.code (fb Tryd.f35).2] (start ([V.emp rI false]) ([])) =
  kk (V.sl (Ks.cons (K.int IntKind.i64) Ks.nil) []) ([]) := by kernel_rfl

end Vm.S06

open Go Go.Proofs
namespace Vm.S06
theorem f16_run {R : Type} (kk : V → List Ob → Option R) (x y : Ev) (h : Ev.small x = true) :
    ∃ n, vrun (E1 8) f16cuts 0 100000 (vend (E1 8) 0 (fb Tryd.f16).1.results.toList false kk) n [.code (fb Tryd.f16).2] (start [enc true rEvent x, enc true rEvent y] []) = kk (.bool (Ev.same x y)) [] := by
  refine ⟨1, ?_⟩
  rw [vrun_succ, f16_go]
  obtain ⟨a1, a2, a3, a4, a5, a6, a7, a8, a9⟩ := x
  obtain ⟨b1, b2, b3, b4, b5, b6, b7, b8, b9⟩ := y
  simp only [Ev.small, Bool.and_eq_true, decide_eq_true_eq] at h
  obtain ⟨h1, h2, h3⟩ := h
  simp only [h1, h2, h3, decide_true, cond_true, Ev.same, Bool.cond_eq_ite, Bool.and_eq_true, decide_eq_true_eq, beq_iff_eq]
  repeat' split
  all_goals first | (simp_all; done) | grind

theorem f17_loop2 {R : Type} (kk : V → List Ob → Option R) (x y : Ev) (hl : x.2.2.2.2.2.2.2.1.length = y.2.2.2.2.2.2.2.1.length) (hb : x.2.2.2.2.2.2.2.1.length < 4611686018427387904) : (d i : Nat) → i + d = x.2.2.2.2.2.2.2.1.length → ∀ N,
    vrun (E1 8) f17cuts 0 100000 (vend (E1 8) 0 (fb Tryd.f17).1.results.toList false kk) (N + d + 1) f17t14 (f17s2 i x y) = bif decide (x.2.2.2.2.2.2.2.1.drop i = y.2.2.2.2.2.2.2.1.drop i) then kk (.bool true) [] else kk (.bool false) []
  | 0, i, h, N => by
    rw [vrun_succ, f17_2, bif_neg (by simp; omega)]
    rw [List.drop_eq_nil_of_le (by omega), List.drop_eq_nil_of_le (by omega)]
    simp
  | d + 1, i, h, N => by
    have hx : i < x.2.2.2.2.2.2.2.1.length := by omega
    have hy : i < y.2.2.2.2.2.2.2.1.length := by omega
    rw [vrun_succ, f17_2, bif_pos (by simp; omega), idx_nat, idx_nat, List.getElem?_eq_getElem hx, List.getElem?_eq_getElem hy]
    dsimp only
    rw [List.drop_eq_getElem_cons hx, List.drop_eq_getElem_cons hy]
    by_cases he : x.2.2.2.2.2.2.2.1[i] = y.2.2.2.2.2.2.2.1[i]
    · rw [bif_neg (by simp [he]), wrap_succ (by omega), ← Nat.add_assoc N d 1, f17_loop2 kk x y hl hb d (i + 1) (by omega) N]
      simp only [he, List.cons.injEq, true_and]
    · rw [bif_pos (by simp [he])]
      simp only [he, List.cons.injEq, false_and, decide_false, cond_false]

theorem f17_loop1 {R : Type} (kk : V → List Ob → Option R) (x y : Ev) (hl : x.2.2.1.length = y.2.2.1.length) (hb : x.2.2.1.length < 4611686018427387904) : (d i : Nat) → i + d = x.2.2.1.length → ∀ N,
    vrun (E1 8) f17cuts 0 100000 (vend (E1 8) 0 (fb Tryd.f17).1.results.toList false kk) (N + d + 1) f17t9 (f17s1 i x y) = bif decide (x.2.2.1.drop i = y.2.2.1.drop i) then vrun (E1 8) f17cuts 0 100000 (vend (E1 8) 0 (fb Tryd.f17).1.results.toList false kk) N f17t14 (f17s2 0 x y) else kk (.bool false) []
  | 0, i, h, N => by
    rw [vrun_succ, f17_1, bif_neg (by simp; omega)]
    rw [List.drop_eq_nil_of_le (by omega), List.drop_eq_nil_of_le (by omega)]
    simp
  | d + 1, i, h, N => by
    have hx : i < x.2.2.1.length := by omega
    have hy : i < y.2.2.1.length := by omega
    rw [vrun_succ, f17_1, bif_pos (by simp; omega), idx_nat, idx_nat, List.getElem?_eq_getElem hx, List.getElem?_eq_getElem hy]
    dsimp only
    rw [List.drop_eq_getElem_cons hx, List.drop_eq_getElem_cons hy]
    by_cases he : x.2.2.1[i] = y.2.2.1[i]
    · rw [bif_neg (by simp [he]), wrap_succ (by omega), ← Nat.add_assoc N d 1, f17_loop1 kk x y hl hb d (i + 1) (by omega) N]
      simp only [he, List.cons.injEq, true_and]
    · rw [bif_pos (by simp [he])]
      simp only [he, List.cons.injEq, false_and, decide_false, cond_false]

theorem f17_loop0 {R : Type} (kk : V → List Ob → Option R) (x y : Ev) (hl : x.2.1.length = y.2.1.length) (hb : x.2.1.length < 4611686018427387904) : (d i : Nat) → i + d = x.2.1.length → ∀ N,
    vrun (E1 8) f17cuts 0 100000 (vend (E1 8) 0 (fb Tryd.f17).1.results.toList false kk) (N + d + 1) f17t4 (f17s0 i x y) = bif decide (x.2.1.drop i = y.2.1.drop i) then vrun (E1 8) f17cuts 0 100000 (vend (E1 8) 0 (fb Tryd.f17).1.results.toList false kk) N f17t9 (f17s1 0 x y) else kk (.bool false) []
  | 0, i, h, N => by
    rw [vrun_succ, f17_0, bif_neg (by simp; omega)]
    rw [List.drop_eq_nil_of_le (by omega), List.drop_eq_nil_of_le (by omega)]
    simp
  | d + 1, i, h, N => by
    have hx : i < x.2.1.length := by omega
    have hy : i < y.2.1.length := by omega
    rw [vrun_succ, f17_0, bif_pos (by simp; omega), idx_nat, idx_nat, List.getElem?_eq_getElem hx, List.getElem?_eq_getElem hy]
    dsimp only
    rw [List.drop_eq_getElem_cons hx, List.drop_eq_getElem_cons hy]
    by_cases he : x.2.1[i] = y.2.1[i]
    · rw [bif_neg (by rw [p3_eq]; simp [he]), wrap_succ (by omega), ← Nat.add_assoc N d 1, f17_loop0 kk x y hl hb d (i + 1) (by omega) N]
      simp only [he, List.cons.injEq, true_and]
    · rw [bif_pos (by rw [p3_eq]; simp [he])]
      simp only [he, List.cons.injEq, false_and, decide_false, cond_false]

theorem f17_run {R : Type} (kk : V → List Ob → Option R) (x y : Ev) (h : Ev.small x = true) :
    ∃ n, vrun (E1 8) f17cuts 0 100000 (vend (E1 8) 0 (fb Tryd.f17).1.results.toList false kk) n [.code (fb Tryd.f17).2] (start [enc true rEvent x, enc true rEvent y] []) = kk (.bool (Ev.same x y)) [] := by
  refine ⟨0 + x.2.2.2.2.2.2.2.1.length + 1 + x.2.2.1.length + 1 + x.2.1.length + 1 + 1, ?_⟩
  rw [vrun_succ, f17_go]
  simp only [Ev.small, Bool.and_eq_true, decide_eq_true_eq] at h
  obtain ⟨h1, h2, h3⟩ := h
  by_cases l1 : x.2.1.length = y.2.1.length
  · by_cases l2 : x.2.2.1.length = y.2.2.1.length
    · by_cases l3 : x.2.2.2.2.2.2.2.1.length = y.2.2.2.2.2.2.2.1.length
      · have e0 := f17_loop0 kk x y l1 h1 x.2.1.length 0 (by omega) (0 + x.2.2.2.2.2.2.2.1.length + 1 + x.2.2.1.length + 1)
        have e1 := f17_loop1 kk x y l2 h2 x.2.2.1.length 0 (by omega) (0 + x.2.2.2.2.2.2.2.1.length + 1)
        have e2 := f17_loop2 kk x y l3 h3 x.2.2.2.2.2.2.2.1.length 0 (by omega) 0
        simp only [List.drop_zero] at e0 e1 e2
        have z : Int.ofNat 0 = ((0 : Nat) : Int) := rfl
        rw [z, e0, show (0 : Int) = ((0 : Nat) : Int) from rfl, e1, show (0 : Int) = ((0 : Nat) : Int) from rfl, e2]
        simp only [Ev.same, l1, l2, l3, decide_true, Bool.not_true, cond_false, Bool.cond_eq_ite, Bool.and_eq_true, decide_eq_true_eq, beq_iff_eq, Bool.not_eq_true']
        repeat' split
        all_goals (clear e0 e1 e2; refine congrArg (fun b => kk (V.bool b) []) ?_; first | (simp_all; done) | grind)
      · have : x.2.2.2.2.2.2.2.1 ≠ y.2.2.2.2.2.2.2.1 := fun e => l3 (by rw [e])
        simp [l3, l1, l2, Ev.same, this, Bool.cond_eq_ite]
        try (intros; omega)
    · have : x.2.2.1 ≠ y.2.2.1 := fun e => l2 (by rw [e])
      simp [l2, l1, Ev.same, this, Bool.cond_eq_ite]
      try (intros; omega)
  · have : x.2.1 ≠ y.2.1 := fun e => l1 (by rw [e])
    simp [l1, Ev.same, this, Bool.cond_eq_ite]
    try (intros; omega)
end Vm.S06

open Go Go.Proofs
namespace Vm.S06


theorem f34_c (xs : List Bool) (h : decide (xs.length * 1 ≤ bytesMost) = true) : Contract Tryd.prog gls 34 [.sl rB xs] [] (.sl rB xs) [] := by
  refine slice_cases (r := rB) (g := fun xs => .sl rB xs) (c := fun (xs : List Bool) => decide (xs.length * 1 ≤ bytesMost)) (fun x xs h => ?_) (u := .nilsl) ?_ (v := .sl rB []) ?_ (fun _ _ _ _ => nil_sl) (fun _ _ _ _ hr => hr) rfl xs h
  · have hn : vrun (E 8) f34acuts 0 100000 (vend (E 8) 0 (fb Tryd.f34).1.results.toList false fun v os => some (v, os)) 1 [.code (fb Tryd.f34).2] (start [.sl rB (x :: xs)] []) = some (.sl rB (x :: xs), []) := by
      rw [vrun_succ]
      refine (f34a_go (vrun (E 8) f34acuts 0 100000 (vend (E 8) 0 (fb Tryd.f34).1.results.toList false fun v os => some (v, os)) 0) (fun v os => some (v, os)) x xs).trans ?_
      have h' : (List.length (x :: xs)) * 1 ≤ bytesMost := of_decide_eq_true h
      rw [bif_pos (decide_eq_true (by rw [List.length_replicate, Nat.zero_add]; exact h'))]
      rfl
    exact contract_run (fn := (fb Tryd.f34).1) (c := (fb Tryd.f34).2) mixed (ready 8) (glE 8) Tryd.func34 (by kernel_rfl) rfl rfl (by kernel_rfl) hn
  · have hn : vrun (E 8) f34bcuts 0 100000 (vend (E 8) 0 (fb Tryd.f34).1.results.toList false fun v os => some (v, os)) 1 [.code (fb Tryd.f34).2] (start [.nilsl] []) = some (.nilsl, []) := by
      rw [vrun_succ]; exact f34b_go _ _
    exact contract_run (fn := (fb Tryd.f34).1) (c := (fb Tryd.f34).2) mixed (ready 8) (glE 8) Tryd.func34 (by kernel_rfl) rfl rfl (by kernel_rfl) hn
  · have hn : vrun (E 8) f34ccuts 0 100000 (vend (E 8) 0 (fb Tryd.f34).1.results.toList false fun v os => some (v, os)) 1 [.code (fb Tryd.f34).2] (start [.emp rB false] []) = some (.sl rB [], []) := by
      rw [vrun_succ]; exact f34c_go _ _
    exact contract_run (fn := (fb Tryd.f34).1) (c := (fb Tryd.f34).2) mixed (ready 8) (glE 8) Tryd.func34 (by kernel_rfl) rfl rfl (by kernel_rfl) hn
def f34e : Entry Tryd.prog gls := .one 34 false (.cons (.sl rB) .nil) (by intro h; cases h <;> rfl) (fun (x : List Bool) => (decide (x.length * 1 ≤ bytesMost), .sl rB x)) fun x h => f34_c x h


theorem f35_c (xs : List Int) (h : decide (xs.length * 8 ≤ bytesMost) = true) : Contract Tryd.prog gls 35 [.sl rI xs] [] (.sl rI xs) [] := by
  refine slice_cases (r := rI) (g := fun xs => .sl rI xs) (c := fun (xs : List Int) => decide (xs.length * 8 ≤ bytesMost)) (fun x xs h => ?_) (u := .nilsl) ?_ (v := .sl rI []) ?_ (fun _ _ _ _ => nil_sl) (fun _ _ _ _ hr => hr) rfl xs h
  · have hn : vrun (E 8) f35acuts 0 100000 (vend (E 8) 0 (fb Tryd.f35).1.results.toList false fun v os => some (v, os)) 1 [.code (fb Tryd.f35).2] (start [.sl rI (x :: xs)] []) = some (.sl rI (x :: xs), []) := by
      rw [vrun_succ]
      refine (f35a_go (vrun (E 8) f35acuts 0 100000 (vend (E 8) 0 (fb Tryd.f35).1.results.toList false fun v os => some (v, os)) 0) (fun v os => some (v, os)) x xs).trans ?_
      have h' : (List.length (x :: xs)) * 8 ≤ bytesMost := of_decide_eq_true h
      rw [bif_pos (decide_eq_true (by rw [List.length_replicate, Nat.zero_add]; exact h'))]
      rfl
    exact contract_run (fn := (fb Tryd.f35).1) (c := (fb Tryd.f35).2) mixed (ready 8) (glE 8) Tryd.func35 (by kernel_rfl) rfl rfl (by kernel_rfl) hn
  · have hn : vrun (E 8) f35bcuts 0 100000 (vend (E 8) 0 (fb Tryd.f35).1.results.toList false fun v os => some (v, os)) 1 [.code (fb Tryd.f35).2] (start [.nilsl] []) = some (.nilsl, []) := by
      rw [vrun_succ]; exact f35b_go _ _
    exact contract_run (fn := (fb Tryd.f35).1) (c := (fb Tryd.f35).2) mixed (ready 8) (glE 8) Tryd.func35 (by kernel_rfl) rfl rfl (by kernel_rfl) hn
  · have hn : vrun (E 8) f35ccuts 0 100000 (vend (E 8) 0 (fb Tryd.f35).1.results.toList false fun v os => some (v, os)) 1 [.code (fb Tryd.f35).2] (start [.emp rI false] []) = some (.sl rI [], []) := by
      rw [vrun_succ]; exact f35c_go _ _
    exact contract_run (fn := (fb Tryd.f35).1) (c := (fb Tryd.f35).2) mixed (ready 8) (glE 8) Tryd.func35 (by kernel_rfl) rfl rfl (by kernel_rfl) hn
def f35e : Entry Tryd.prog gls := .one 35 false (.cons (.sl rI) .nil) (by intro h; cases h <;> rfl) (fun (x : List Int) => (decide (x.length * 8 ≤ bytesMost), .sl rI x)) fun x h => f35_c x h

end Vm.S06

open Go Go.Proofs
namespace Vm.S06


def f16e : Entry Tryd.prog gls := .two 16 true rEvent true rEvent (by intro h; cases h <;> rfl) (by intro h; cases h <;> rfl) (fun (x : Ev) (y : Ev) => (Ev.small x, .bool (Ev.same x y))) fun x y h => by
  obtain ⟨n, hn⟩ := f16_run (fun v os => some (v, os)) x y h
  exact contract_run (fn := (fb Tryd.f16).1) (c := (fb Tryd.f16).2) mixed (ready1 8) (glE1 8) Tryd.func16 (by kernel_rfl) rfl rfl (by kernel_rfl) hn


def f17e : Entry Tryd.prog gls := .two 17 true rEvent true rEvent (by intro h; cases h <;> rfl) (by intro h; cases h <;> rfl) (fun (x : Ev) (y : Ev) => (Ev.small x, .bool (Ev.same x y))) fun x y h => by
  obtain ⟨n, hn⟩ := f17_run (fun v os => some (v, os)) x y h
  exact contract_run (fn := (fb Tryd.f17).1) (c := (fb Tryd.f17).2) mixed (ready1 8) (glE1 8) Tryd.func17 (by kernel_rfl) rfl rfl (by kernel_rfl) hn

noncomputable def es2 : List (Entry Tryd.prog gls) := [f31e, f32e, f33e, f34e, f35e, f16e, f17e]
noncomputable def E2 (n : Nat) : Env := interp fns (look tys) gls mvs (tabOf es2) 100000 n
theorem ready2 (n : Nat) : Ready Tryd.prog (E2 n) := ready_of mixed fnsAll tysOk n
theorem glE2 (n : Nat) : (E2 n).gl = gls := by cases n <;> rfl
end Vm.S06

open Go Go.Proofs
namespace Vm.S06
theorem awake_go {R : Type} (kk : V → List Ob → Option R) : vrun (E2 14) (fun _ => none) 0 100000 (vend (E2 14) 0 (fb Tryd.f14).1.results.toList false kk) 1 [.code (fb Tryd.f14).2] (start [] []) = kk (.bool true) [] := by kernel_rfl
def awakee : Entry Tryd.prog gls where
  f := 14
  g := fun args os => match args, os with
    | [], [] => some (true, .bool true, [])
    | _, _ => none
  says := fun args os c v os' h hc => by
    split at h
    · cases h
      have hn := awake_go (fun v os => some (v, os))
      exact contract_run (fn := (fb Tryd.f14).1) (c := (fb Tryd.f14).2) mixed (ready2 14) (glE2 14) Tryd.func14 (by kernel_rfl) rfl rfl (by kernel_rfl) hn
    · cases h
noncomputable def es3 : List (Entry Tryd.prog gls) := awakee :: es2
noncomputable def E3 (n : Nat) : Env := interp fns (look tys) gls mvs (tabOf es3) 100000 n
theorem ready3 (n : Nat) : Ready Tryd.prog (E3 n) := ready_of mixed fnsAll tysOk n
theorem glE3 (n : Nat) : (E3 n).gl = gls := by cases n <;> rfl
end Vm.S06

