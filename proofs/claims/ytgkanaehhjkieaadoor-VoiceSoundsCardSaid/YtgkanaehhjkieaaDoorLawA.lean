/- The slices' equality, the events' equality, copies, as runs of the value machine. -/
import Derived.Test.YtgkanaehhjkieaaDoorEnv
import Derived.Test.YtgkanaehhjkieaaDoorVmE
import Derived.KernelRfl
set_option maxRecDepth 100000
open Go Go.Proofs
namespace Vm.S07
noncomputable abbrev f75cuts : Cuts := look [(4, [0, 1, 12, 13])]
noncomputable abbrev f75t4 : List Item := itemsAt (fb Tryd.f75).2 4
def f75s0 (xs : List Int) (ys : List Int) (n1 : Int) : St := { fr := [(0, V.sl rI xs), (1, V.sl rI ys), (12, V.int IntKind.i64 (↑xs.length : Int)), (13, V.int IntKind.i64 n1)], hp := [], nx := 0 }
theorem f75_go {R : Type} (J : List Item → St → Option R) (kk : V → List Ob → Option R) (xs : List Int) (ys : List Int) :
  vseg (E 8) f75cuts 0 J (vend (E 8) 0 (fb Tryd.f75).1.results.toList false kk) 100000 true [.code (fb Tryd.f75).2] (start ([V.sl rI xs, V.sl rI ys]) ([])) =
  (bif !decide ((↑xs.length : Int) = (↑ys.length : Int)) then
    kk (V.bool false) ([])
  else J f75t4 (f75s0 (xs) (ys) (0 : Int))) := by kernel_rfl
theorem f75_0 {R : Type} (J : List Item → St → Option R) (kk : V → List Ob → Option R) (xs : List Int) (ys : List Int) (n1 : Int) :
  vseg (E 8) f75cuts 0 J (vend (E 8) 0 (fb Tryd.f75).1.results.toList false kk) 100000 true f75t4 (f75s0 xs ys n1) =
  (bif decide (n1 < (↑xs.length : Int)) then
    (match idx xs n1 with
      | some y2 => (match idx ys n1 with
        | some y3 => (bif !decide (y2 = y3) then
          kk (V.bool false) ([])
        else J f75t4 (f75s0 (xs) (ys) (IntKind.i64.wrap (n1 + (1 : Int)))))
        | none => none)
      | none => none)
  else kk (V.bool true) ([])) := by kernel_rfl

noncomputable abbrev f74cuts : Cuts := look [(4, [0, 1, 12, 13])]
noncomputable abbrev f74t4 : List Item := itemsAt (fb Tryd.f74).2 4
def f74s0 (xs : List Bool) (ys : List Bool) (n1 : Int) : St := { fr := [(0, V.sl rB xs), (1, V.sl rB ys), (12, V.int IntKind.i64 (↑xs.length : Int)), (13, V.int IntKind.i64 n1)], hp := [], nx := 0 }
theorem f74_go {R : Type} (J : List Item → St → Option R) (kk : V → List Ob → Option R) (xs : List Bool) (ys : List Bool) :
  vseg (E 8) f74cuts 0 J (vend (E 8) 0 (fb Tryd.f74).1.results.toList false kk) 100000 true [.code (fb Tryd.f74).2] (start ([V.sl rB xs, V.sl rB ys]) ([])) =
  (bif !decide ((↑xs.length : Int) = (↑ys.length : Int)) then
    kk (V.bool false) ([])
  else J f74t4 (f74s0 (xs) (ys) (0 : Int))) := by kernel_rfl
theorem f74_0 {R : Type} (J : List Item → St → Option R) (kk : V → List Ob → Option R) (xs : List Bool) (ys : List Bool) (n1 : Int) :
  vseg (E 8) f74cuts 0 J (vend (E 8) 0 (fb Tryd.f74).1.results.toList false kk) 100000 true f74t4 (f74s0 xs ys n1) =
  (bif decide (n1 < (↑xs.length : Int)) then
    (match idx xs n1 with
      | some y2 => (match idx ys n1 with
        | some y3 => (bif !y2 == y3 then
          kk (V.bool false) ([])
        else J f74t4 (f74s0 (xs) (ys) (IntKind.i64.wrap (n1 + (1 : Int)))))
        | none => none)
      | none => none)
  else kk (V.bool true) ([])) := by kernel_rfl

noncomputable abbrev f73cuts : Cuts := look [(4, [0, 1, 12, 13])]
noncomputable abbrev f73t4 : List Item := itemsAt (fb Tryd.f73).2 4
def f73s0 (xs : List (Int × Int × Int)) (ys : List (Int × Int × Int)) (n1 : Int) : St := { fr := [(0, V.sl rPitch xs), (1, V.sl rPitch ys), (12, V.int IntKind.i64 (↑xs.length : Int)), (13, V.int IntKind.i64 n1)], hp := [], nx := 0 }
theorem f73_go {R : Type} (J : List Item → St → Option R) (kk : V → List Ob → Option R) (xs : List (Int × Int × Int)) (ys : List (Int × Int × Int)) :
  vseg (E 8) f73cuts 0 J (vend (E 8) 0 (fb Tryd.f73).1.results.toList false kk) 100000 true [.code (fb Tryd.f73).2] (start ([V.sl rPitch xs, V.sl rPitch ys]) ([])) =
  (bif !decide ((↑xs.length : Int) = (↑ys.length : Int)) then
    kk (V.bool false) ([])
  else J f73t4 (f73s0 (xs) (ys) (0 : Int))) := by kernel_rfl
theorem f73_0 {R : Type} (J : List Item → St → Option R) (kk : V → List Ob → Option R) (xs : List (Int × Int × Int)) (ys : List (Int × Int × Int)) (n1 : Int) :
  vseg (E 8) f73cuts 0 J (vend (E 8) 0 (fb Tryd.f73).1.results.toList false kk) 100000 true f73t4 (f73s0 xs ys n1) =
  (bif decide (n1 < (↑xs.length : Int)) then
    (match idx xs n1 with
      | some y2 => (match idx ys n1 with
        | some y3 => (bif !(decide (y2.fst = y3.fst) && (decide (y2.snd.fst = y3.snd.fst) && decide (y2.snd.snd = y3.snd.snd))) then
          kk (V.bool false) ([])
        else J f73t4 (f73s0 (xs) (ys) (IntKind.i64.wrap (n1 + (1 : Int)))))
        | none => none)
      | none => none)
  else kk (V.bool true) ([])) := by kernel_rfl

end Vm.S07

open Go Go.Proofs
namespace Vm.S07


theorem f75_loop {R : Type} (kk : V → List Ob → Option R) (xs ys : List Int) (hl : xs.length = ys.length) (hb : xs.length < 4611686018427387904) : (d i : Nat) → i + d = xs.length →
    vrun (E 8) f75cuts 0 100000 (vend (E 8) 0 (fb Tryd.f75).1.results.toList false kk) (d + 1) f75t4 (f75s0 xs ys i) = kk (.bool (decide (xs.drop i = ys.drop i))) []
  | 0, i, h => by
    rw [vrun_succ, f75_0, bif_neg (by simp; omega)]
    rw [List.drop_eq_nil_of_le (by omega), List.drop_eq_nil_of_le (by omega)]
    rfl
  | d + 1, i, h => by
    have hx : i < xs.length := by omega
    have hy : i < ys.length := by omega
    rw [vrun_succ, f75_0, bif_pos (by simp; omega), idx_nat, idx_nat, List.getElem?_eq_getElem hx, List.getElem?_eq_getElem hy]
    dsimp only
    rw [List.drop_eq_getElem_cons hx, List.drop_eq_getElem_cons hy]
    by_cases he : xs[i] = ys[i]
    · rw [bif_neg (by simp [he]), wrap_succ (by omega), f75_loop kk xs ys hl hb d (i + 1) (by omega)]
      simp only [he, List.cons.injEq, true_and]
    · rw [bif_pos (by simp [he])]
      simp only [he, List.cons.injEq, false_and, decide_false]
theorem f75_run {R : Type} (kk : V → List Ob → Option R) (xs ys : List Int) (hb : xs.length < 4611686018427387904) :
    ∃ n, vrun (E 8) f75cuts 0 100000 (vend (E 8) 0 (fb Tryd.f75).1.results.toList false kk) n [.code (fb Tryd.f75).2] (start [.sl rI xs, .sl rI ys] []) = kk (.bool (decide (xs = ys))) [] := by
  by_cases hl : xs.length = ys.length
  · refine ⟨xs.length + 1 + 1, ?_⟩
    rw [vrun_succ, f75_go, bif_neg (by simp [hl])]
    exact f75_loop kk xs ys hl hb xs.length 0 (by omega)
  · refine ⟨1, ?_⟩
    rw [vrun_succ, f75_go, bif_pos (by simp; omega)]
    have : xs ≠ ys := fun e => hl (by rw [e])
    simp [this]


theorem f74_loop {R : Type} (kk : V → List Ob → Option R) (xs ys : List Bool) (hl : xs.length = ys.length) (hb : xs.length < 4611686018427387904) : (d i : Nat) → i + d = xs.length →
    vrun (E 8) f74cuts 0 100000 (vend (E 8) 0 (fb Tryd.f74).1.results.toList false kk) (d + 1) f74t4 (f74s0 xs ys i) = kk (.bool (decide (xs.drop i = ys.drop i))) []
  | 0, i, h => by
    rw [vrun_succ, f74_0, bif_neg (by simp; omega)]
    rw [List.drop_eq_nil_of_le (by omega), List.drop_eq_nil_of_le (by omega)]
    rfl
  | d + 1, i, h => by
    have hx : i < xs.length := by omega
    have hy : i < ys.length := by omega
    rw [vrun_succ, f74_0, bif_pos (by simp; omega), idx_nat, idx_nat, List.getElem?_eq_getElem hx, List.getElem?_eq_getElem hy]
    dsimp only
    rw [List.drop_eq_getElem_cons hx, List.drop_eq_getElem_cons hy]
    by_cases he : xs[i] = ys[i]
    · rw [bif_neg (by simp [he]), wrap_succ (by omega), f74_loop kk xs ys hl hb d (i + 1) (by omega)]
      simp only [he, List.cons.injEq, true_and]
    · rw [bif_pos (by simp [he])]
      simp only [he, List.cons.injEq, false_and, decide_false]
theorem f74_run {R : Type} (kk : V → List Ob → Option R) (xs ys : List Bool) (hb : xs.length < 4611686018427387904) :
    ∃ n, vrun (E 8) f74cuts 0 100000 (vend (E 8) 0 (fb Tryd.f74).1.results.toList false kk) n [.code (fb Tryd.f74).2] (start [.sl rB xs, .sl rB ys] []) = kk (.bool (decide (xs = ys))) [] := by
  by_cases hl : xs.length = ys.length
  · refine ⟨xs.length + 1 + 1, ?_⟩
    rw [vrun_succ, f74_go, bif_neg (by simp [hl])]
    exact f74_loop kk xs ys hl hb xs.length 0 (by omega)
  · refine ⟨1, ?_⟩
    rw [vrun_succ, f74_go, bif_pos (by simp; omega)]
    have : xs ≠ ys := fun e => hl (by rw [e])
    simp [this]


theorem f73_loop {R : Type} (kk : V → List Ob → Option R) (xs ys : List (Int × Int × Int)) (hl : xs.length = ys.length) (hb : xs.length < 4611686018427387904) : (d i : Nat) → i + d = xs.length →
    vrun (E 8) f73cuts 0 100000 (vend (E 8) 0 (fb Tryd.f73).1.results.toList false kk) (d + 1) f73t4 (f73s0 xs ys i) = kk (.bool (decide (xs.drop i = ys.drop i))) []
  | 0, i, h => by
    rw [vrun_succ, f73_0, bif_neg (by simp; omega)]
    rw [List.drop_eq_nil_of_le (by omega), List.drop_eq_nil_of_le (by omega)]
    rfl
  | d + 1, i, h => by
    have hx : i < xs.length := by omega
    have hy : i < ys.length := by omega
    rw [vrun_succ, f73_0, bif_pos (by simp; omega), idx_nat, idx_nat, List.getElem?_eq_getElem hx, List.getElem?_eq_getElem hy]
    dsimp only
    rw [List.drop_eq_getElem_cons hx, List.drop_eq_getElem_cons hy]
    by_cases he : xs[i] = ys[i]
    · rw [bif_neg (by rw [p3_eq]; simp [he]), wrap_succ (by omega), f73_loop kk xs ys hl hb d (i + 1) (by omega)]
      simp only [he, List.cons.injEq, true_and]
    · rw [bif_pos (by rw [p3_eq]; simp [he])]
      simp only [he, List.cons.injEq, false_and, decide_false]
theorem f73_run {R : Type} (kk : V → List Ob → Option R) (xs ys : List (Int × Int × Int)) (hb : xs.length < 4611686018427387904) :
    ∃ n, vrun (E 8) f73cuts 0 100000 (vend (E 8) 0 (fb Tryd.f73).1.results.toList false kk) n [.code (fb Tryd.f73).2] (start [.sl rPitch xs, .sl rPitch ys] []) = kk (.bool (decide (xs = ys))) [] := by
  by_cases hl : xs.length = ys.length
  · refine ⟨xs.length + 1 + 1, ?_⟩
    rw [vrun_succ, f73_go, bif_neg (by simp [hl])]
    exact f73_loop kk xs ys hl hb xs.length 0 (by omega)
  · refine ⟨1, ?_⟩
    rw [vrun_succ, f73_go, bif_pos (by simp; omega)]
    have : xs ≠ ys := fun e => hl (by rw [e])
    simp [this]

end Vm.S07

open Go Go.Proofs
namespace Vm.S07
abbrev srI : Ks := .cons (.sl rI) .nil
abbrev srB : Ks := .cons (.sl rB) .nil
abbrev srP : Ks := .cons (.sl rPitch) .nil


noncomputable def f75e : Entry Tryd.prog gls := .two 75 false srI false srI (by intro h; cases h <;> rfl) (by intro h; cases h <;> rfl) (fun (x : List Int) (y : List Int) => (decide (x.length < 4611686018427387904), .bool (decide (x = y)))) fun x y h => by
  obtain ⟨n, hn⟩ := f75_run (fun v os => some (v, os)) x y (of_decide_eq_true h)
  exact contract_run (fn := (fb Tryd.f75).1) (c := (fb Tryd.f75).2) mixed (ready 8) (glE 8) Tryd.func75 (by kernel_rfl) rfl rfl (by kernel_rfl) hn


noncomputable def f74e : Entry Tryd.prog gls := .two 74 false srB false srB (by intro h; cases h <;> rfl) (by intro h; cases h <;> rfl) (fun (x : List Bool) (y : List Bool) => (decide (x.length < 4611686018427387904), .bool (decide (x = y)))) fun x y h => by
  obtain ⟨n, hn⟩ := f74_run (fun v os => some (v, os)) x y (of_decide_eq_true h)
  exact contract_run (fn := (fb Tryd.f74).1) (c := (fb Tryd.f74).2) mixed (ready 8) (glE 8) Tryd.func74 (by kernel_rfl) rfl rfl (by kernel_rfl) hn


noncomputable def f73e : Entry Tryd.prog gls := .two 73 false srP false srP (by intro h; cases h <;> rfl) (by intro h; cases h <;> rfl) (fun (x : List (Int × Int × Int)) (y : List (Int × Int × Int)) => (decide (x.length < 4611686018427387904), .bool (decide (x = y)))) fun x y h => by
  obtain ⟨n, hn⟩ := f73_run (fun v os => some (v, os)) x y (of_decide_eq_true h)
  exact contract_run (fn := (fb Tryd.f73).1) (c := (fb Tryd.f73).2) mixed (ready 8) (glE 8) Tryd.func73 (by kernel_rfl) rfl rfl (by kernel_rfl) hn

noncomputable def es1 : List (Entry Tryd.prog gls) := [f73e, f74e, f75e]
noncomputable def E1 (n : Nat) : Env := interp fns (look tys) gls mvs (tabOf es1) 100000 n
theorem ready1 (n : Nat) : Ready Tryd.prog (E1 n) := ready_of mixed fnsAll tysOk rfsOk n
theorem glE1 (n : Nat) : (E1 n).gl = gls := by cases n <;> rfl
end Vm.S07

open Go Go.Proofs
namespace Vm.S07
noncomputable abbrev f53cuts : Cuts := fun _ => none
theorem f53_go {R : Type} (J : List Item → St → Option R) (kk : V → List Ob → Option R) (x : Int × List (Int × Int × Int) × List Bool × Int × Int × Int × Int × List Int × List UInt8) (y : Int × List (Int × Int × Int) × List Bool × Int × Int × Int × Int × List Int × List UInt8) :
  vseg (E1 8) f53cuts 0 J (vend (E1 8) 0 (fb Tryd.f53).1.results.toList false kk) 100000 true [.code (fb Tryd.f53).2] (start ([enc true rEvent x, enc true rEvent y]) ([])) =
  (bif decide (x.fst = y.fst) then
    (bif decide (x.snd.snd.snd.fst = y.snd.snd.snd.fst) && (decide (x.snd.snd.snd.snd.fst = y.snd.snd.snd.snd.fst) && (decide (x.snd.snd.snd.snd.snd.fst = y.snd.snd.snd.snd.snd.fst) && decide (x.snd.snd.snd.snd.snd.snd.fst = y.snd.snd.snd.snd.snd.snd.fst))) then
      (bif x.snd.snd.snd.snd.snd.snd.snd.snd == y.snd.snd.snd.snd.snd.snd.snd.snd then
        (bif decide (List.length x.snd.fst < (4611686018427387904 : Nat)) then
          (bif decide (x.snd.fst = y.snd.fst) then
            (bif decide (List.length x.snd.snd.fst < (4611686018427387904 : Nat)) then
              (bif decide (x.snd.snd.fst = y.snd.snd.fst) then
                (bif decide (List.length x.snd.snd.snd.snd.snd.snd.snd.fst < (4611686018427387904 : Nat)) then
                  kk (V.bool (decide (x.snd.snd.snd.snd.snd.snd.snd.fst = y.snd.snd.snd.snd.snd.snd.snd.fst))) ([])
                else none)
              else kk (V.bool false) ([]))
            else none)
          else kk (V.bool false) ([]))
        else none)
      else kk (V.bool false) ([]))
    else kk (V.bool false) ([]))
  else kk (V.bool false) ([])) := by kernel_rfl

end Vm.S07

open Go Go.Proofs
namespace Vm.S07
noncomputable abbrev f31acuts : Cuts := fun _ => none
theorem f31a_go {R : Type} (J : List Item → St → Option R) (kk : V → List Ob → Option R) (x : Int) (xs : List Int) :
  vseg (E 8) f31acuts 0 J (vend (E 8) 0 (fb Tryd.f31).1.results.toList false kk) 100000 true [.code (fb Tryd.f31).2] (start ([V.sl rI
    (have this := x :: xs;
    this)]) ([])) =
  (bif decide
  (((List.replicate (0 : Nat) (Int.ofNat (0 : Nat))).length +
        (have this := x :: xs;
          this).length) *
      8 ≤
    bytesMost) then
    kk (V.sl (Ks.cons (K.int IntKind.i64) Ks.nil)
  (List.replicate (0 : Nat) (Int.ofNat (0 : Nat)) ++
    have this := x :: xs;
    this)) ([])
  else none) := by kernel_rfl

noncomputable abbrev f31bcuts : Cuts := fun _ => none
theorem f31b_go {R : Type} (J : List Item → St → Option R) (kk : V → List Ob → Option R) :
  vseg (E 8) f31bcuts 0 J (vend (E 8) 0 (fb Tryd.f31).1.results.toList false kk) 100000 true [.code (fb Tryd.f31).2] (start ([V.nilsl]) ([])) =
  kk (V.nilsl) ([]) := by kernel_rfl

noncomputable abbrev f31ccuts : Cuts := fun _ => none
theorem f31c_go {R : Type} (J : List Item → St → Option R) (kk : V → List Ob → Option R) :
  vseg (E 8) f31ccuts 0 J (vend (E 8) 0 (fb Tryd.f31).1.results.toList false kk) 100000 true [.code (fb Tryd.f31).2] (start ([V.emp rI false]) ([])) =
  kk (V.sl (Ks.cons (K.int IntKind.i64) Ks.nil) []) ([]) := by kernel_rfl

end Vm.S07

open Go Go.Proofs
namespace Vm.S07
theorem f53_run {R : Type} (kk : V → List Ob → Option R) (x y : Ev) (h : Ev.small x = true) :
    ∃ n, vrun (E1 8) f53cuts 0 100000 (vend (E1 8) 0 (fb Tryd.f53).1.results.toList false kk) n [.code (fb Tryd.f53).2] (start [enc true rEvent x, enc true rEvent y] []) = kk (.bool (Ev.same x y)) [] := by
  refine ⟨1, ?_⟩
  rw [vrun_succ, f53_go]
  obtain ⟨a1, a2, a3, a4, a5, a6, a7, a8, a9⟩ := x
  obtain ⟨b1, b2, b3, b4, b5, b6, b7, b8, b9⟩ := y
  simp only [Ev.small, Bool.and_eq_true, decide_eq_true_eq] at h
  obtain ⟨h1, h2, h3⟩ := h
  simp only [h1, h2, h3, decide_true, cond_true, Ev.same, Bool.cond_eq_ite, Bool.and_eq_true, decide_eq_true_eq, beq_iff_eq]
  repeat' split
  all_goals first | (simp_all; done) | grind

end Vm.S07

open Go Go.Proofs
namespace Vm.S07


theorem f31_c (xs : List Int) (h : decide (xs.length * 8 ≤ bytesMost) = true) : Contract Tryd.prog gls 31 [.sl rI xs] [] (.sl rI xs) [] := by
  refine slice_cases (r := rI) (g := fun xs => .sl rI xs) (c := fun (xs : List Int) => decide (xs.length * 8 ≤ bytesMost)) (fun x xs h => ?_) (u := .nilsl) ?_ (v := .sl rI []) ?_ (fun _ _ _ _ => nil_sl) (fun _ _ _ _ hr => hr) rfl xs h
  · have hn : vrun (E 8) f31acuts 0 100000 (vend (E 8) 0 (fb Tryd.f31).1.results.toList false fun v os => some (v, os)) 1 [.code (fb Tryd.f31).2] (start [.sl rI (x :: xs)] []) = some (.sl rI (x :: xs), []) := by
      rw [vrun_succ]
      refine (f31a_go (vrun (E 8) f31acuts 0 100000 (vend (E 8) 0 (fb Tryd.f31).1.results.toList false fun v os => some (v, os)) 0) (fun v os => some (v, os)) x xs).trans ?_
      have h' : (List.length (x :: xs)) * 8 ≤ bytesMost := of_decide_eq_true h
      rw [bif_pos (decide_eq_true (by rw [List.length_replicate, Nat.zero_add]; exact h'))]
      rfl
    exact contract_run (fn := (fb Tryd.f31).1) (c := (fb Tryd.f31).2) mixed (ready 8) (glE 8) Tryd.func31 (by kernel_rfl) rfl rfl (by kernel_rfl) hn
  · have hn : vrun (E 8) f31bcuts 0 100000 (vend (E 8) 0 (fb Tryd.f31).1.results.toList false fun v os => some (v, os)) 1 [.code (fb Tryd.f31).2] (start [.nilsl] []) = some (.nilsl, []) := by
      rw [vrun_succ]; exact f31b_go _ _
    exact contract_run (fn := (fb Tryd.f31).1) (c := (fb Tryd.f31).2) mixed (ready 8) (glE 8) Tryd.func31 (by kernel_rfl) rfl rfl (by kernel_rfl) hn
  · have hn : vrun (E 8) f31ccuts 0 100000 (vend (E 8) 0 (fb Tryd.f31).1.results.toList false fun v os => some (v, os)) 1 [.code (fb Tryd.f31).2] (start [.emp rI false] []) = some (.sl rI [], []) := by
      rw [vrun_succ]; exact f31c_go _ _
    exact contract_run (fn := (fb Tryd.f31).1) (c := (fb Tryd.f31).2) mixed (ready 8) (glE 8) Tryd.func31 (by kernel_rfl) rfl rfl (by kernel_rfl) hn
noncomputable def f31e : Entry Tryd.prog gls := .one 31 false (.cons (.sl rI) .nil) (by intro h; cases h <;> rfl) (fun (x : List Int) => (decide (x.length * 8 ≤ bytesMost), .sl rI x)) fun x h => f31_c x h

end Vm.S07

open Go Go.Proofs
namespace Vm.S07


noncomputable def f53e : Entry Tryd.prog gls := .two 53 true rEvent true rEvent (by intro h; cases h <;> rfl) (by intro h; cases h <;> rfl) (fun (x : Ev) (y : Ev) => (Ev.small x, .bool (Ev.same x y))) fun x y h => by
  obtain ⟨n, hn⟩ := f53_run (fun v os => some (v, os)) x y h
  exact contract_run (fn := (fb Tryd.f53).1) (c := (fb Tryd.f53).2) mixed (ready1 8) (glE1 8) Tryd.func53 (by kernel_rfl) rfl rfl (by kernel_rfl) hn


noncomputable def es2 : List (Entry Tryd.prog gls) := [f73e, f74e, f75e, f31e, f53e]
noncomputable def E2 (n : Nat) : Env := interp fns (look tys) gls mvs (tabOf es2) 100000 n
theorem ready2 (n : Nat) : Ready Tryd.prog (E2 n) := ready_of mixed fnsAll tysOk rfsOk n
theorem glE2 (n : Nat) : (E2 n).gl = gls := by cases n <;> rfl
end Vm.S07

