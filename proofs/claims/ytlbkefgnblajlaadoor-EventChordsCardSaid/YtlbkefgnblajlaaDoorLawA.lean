/- Slices, events, values, words, pitches and lengths, as runs of the value machine. -/
import Derived.Test.YtlbkefgnblajlaaDoorEnv
import Derived.Test.YtlbkefgnblajlaaDoorVmE
import Derived.KernelRfl
import Derived.Test.YtlbkefgnblajlaaDoorWords
set_option maxRecDepth 100000
open Go Go.Proofs Go.IntKind
namespace Vm.S6b
variable {R : Type} (J : List Item → St → Option R) (kk : V → List Ob → Option R)
noncomputable abbrev f39cuts : Cuts := look [(4, [0, 1, 12, 13])]
noncomputable abbrev f39t4 : List Item := itemsAt (fb Tryd.f39).2 4
def f39s0 (xs ys : List Int) (n1 : Int) : St := { fr := [(0, V.sl rI xs), (1, V.sl rI ys), (12, V.int i64 (↑xs.length : Int)), (13, V.int i64 n1)], hp := [], nx := 0 }
theorem f39_go (xs ys : List Int) :
 vseg (E 8) f39cuts 0 J (vend (E 8) 0 (fb Tryd.f39).1.results.toList false kk) 100000 true [.code (fb Tryd.f39).2] (start ([V.sl rI xs, V.sl rI ys]) ([])) =
 (bif !decide ((↑xs.length : Int) = (↑ys.length : Int)) then
 kk (V.bool false) ([])
 else J f39t4 (f39s0 (xs) (ys) (0 : Int))) := by kernel_rfl
theorem f39_0 (xs ys : List Int) (n1 : Int) :
 vseg (E 8) f39cuts 0 J (vend (E 8) 0 (fb Tryd.f39).1.results.toList false kk) 100000 true f39t4 (f39s0 xs ys n1) =
 (bif decide (n1 < (↑xs.length : Int)) then
 (match idx xs n1 with
 | some y2 => (match idx ys n1 with
 | some y3 => (bif !decide (y2 = y3) then
 kk (V.bool false) ([])
 else J f39t4 (f39s0 (xs) (ys) (i64.wrap (n1 + (1 : Int)))))
 | none => none)
 | none => none)
 else kk (V.bool true) ([])) := by kernel_rfl
noncomputable abbrev f38cuts : Cuts := look [(4, [0, 1, 12, 13])]
noncomputable abbrev f38t4 : List Item := itemsAt (fb Tryd.f38).2 4
def f38s0 (xs ys : List Bool) (n1 : Int) : St := { fr := [(0, V.sl rB xs), (1, V.sl rB ys), (12, V.int i64 (↑xs.length : Int)), (13, V.int i64 n1)], hp := [], nx := 0 }
theorem f38_go (xs ys : List Bool) :
 vseg (E 8) f38cuts 0 J (vend (E 8) 0 (fb Tryd.f38).1.results.toList false kk) 100000 true [.code (fb Tryd.f38).2] (start ([V.sl rB xs, V.sl rB ys]) ([])) =
 (bif !decide ((↑xs.length : Int) = (↑ys.length : Int)) then
 kk (V.bool false) ([])
 else J f38t4 (f38s0 (xs) (ys) (0 : Int))) := by kernel_rfl
theorem f38_0 (xs ys : List Bool) (n1 : Int) :
 vseg (E 8) f38cuts 0 J (vend (E 8) 0 (fb Tryd.f38).1.results.toList false kk) 100000 true f38t4 (f38s0 xs ys n1) =
 (bif decide (n1 < (↑xs.length : Int)) then
 (match idx xs n1 with
 | some y2 => (match idx ys n1 with
 | some y3 => (bif !y2 == y3 then
 kk (V.bool false) ([])
 else J f38t4 (f38s0 (xs) (ys) (i64.wrap (n1 + (1 : Int)))))
 | none => none)
 | none => none)
 else kk (V.bool true) ([])) := by kernel_rfl
noncomputable abbrev f37cuts : Cuts := look [(4, [0, 1, 12, 13])]
noncomputable abbrev f37t4 : List Item := itemsAt (fb Tryd.f37).2 4
def f37s0 (xs ys : List Pt) (n1 : Int) : St := { fr := [(0, V.sl rPitch xs), (1, V.sl rPitch ys), (12, V.int i64 (↑xs.length : Int)), (13, V.int i64 n1)], hp := [], nx := 0 }
theorem f37_go (xs ys : List Pt) :
 vseg (E 8) f37cuts 0 J (vend (E 8) 0 (fb Tryd.f37).1.results.toList false kk) 100000 true [.code (fb Tryd.f37).2] (start ([V.sl rPitch xs, V.sl rPitch ys]) ([])) =
 (bif !decide ((↑xs.length : Int) = (↑ys.length : Int)) then
 kk (V.bool false) ([])
 else J f37t4 (f37s0 (xs) (ys) (0 : Int))) := by kernel_rfl
theorem f37_0 (xs ys : List Pt) (n1 : Int) :
 vseg (E 8) f37cuts 0 J (vend (E 8) 0 (fb Tryd.f37).1.results.toList false kk) 100000 true f37t4 (f37s0 xs ys n1) =
 (bif decide (n1 < (↑xs.length : Int)) then
 (match idx xs n1 with
 | some y2 => (match idx ys n1 with
 | some y3 => (bif !(decide (y2.fst = y3.fst) && (decide (y2.snd.fst = y3.snd.fst) && decide (y2.snd.snd = y3.snd.snd))) then
 kk (V.bool false) ([])
 else J f37t4 (f37s0 (xs) (ys) (i64.wrap (n1 + (1 : Int)))))
 | none => none)
 | none => none)
 else kk (V.bool true) ([])) := by kernel_rfl
end Vm.S6b
open Go Go.Proofs
namespace Vm.S6b
theorem f39_loop {R : Type} (kk : V → List Ob → Option R) (xs ys : List Int) (hl : xs.length = ys.length) (hb : xs.length < 4611686018427387904) : (d i : Nat) → i + d = xs.length →
  vrun (E 8) f39cuts 0 100000 (vend (E 8) 0 (fb Tryd.f39).1.results.toList false kk) (d + 1) f39t4 (f39s0 xs ys i) = kk (.bool (decide (xs.drop i = ys.drop i))) []
 | 0, i, h => by
   rw [vrun_succ, f39_0, bif_neg (by simp; omega)]
   rw [List.drop_eq_nil_of_le (by omega), List.drop_eq_nil_of_le (by omega)]
   rfl
 | d + 1, i, h => by
   have hx : i < xs.length := by omega
   have hy : i < ys.length := by omega
   rw [vrun_succ, f39_0, bif_pos (by simp; omega), idx_nat, idx_nat, List.getElem?_eq_getElem hx, List.getElem?_eq_getElem hy]
   dsimp only
   rw [List.drop_eq_getElem_cons hx, List.drop_eq_getElem_cons hy]
   by_cases he : xs[i] = ys[i]
   ·rw [bif_neg (by simp [he]), wrap_succ (by omega), f39_loop kk xs ys hl hb d (i + 1) (by omega)]
    simp only [he, List.cons.injEq, true_and]
   ·rw [bif_pos (by simp [he])]
    simp only [he, List.cons.injEq, false_and, decide_false]
theorem f39_run {R : Type} (kk : V → List Ob → Option R) (xs ys : List Int) (hb : xs.length < 4611686018427387904) :
  ∃ n, vrun (E 8) f39cuts 0 100000 (vend (E 8) 0 (fb Tryd.f39).1.results.toList false kk) n [.code (fb Tryd.f39).2] (start [.sl rI xs, .sl rI ys] []) = kk (.bool (decide (xs = ys))) [] := by
 by_cases hl : xs.length = ys.length
 ·refine ⟨xs.length + 1 + 1, ?_⟩
  rw [vrun_succ, f39_go, bif_neg (by simp [hl])]
  exact f39_loop kk xs ys hl hb xs.length 0 (by omega)
 ·refine ⟨1, ?_⟩
  rw [vrun_succ, f39_go, bif_pos (by simp; omega)]
  have : xs ≠ ys := fun e => hl (by rw [e])
  simp [this]
theorem f38_loop {R : Type} (kk : V → List Ob → Option R) (xs ys : List Bool) (hl : xs.length = ys.length) (hb : xs.length < 4611686018427387904) : (d i : Nat) → i + d = xs.length →
  vrun (E 8) f38cuts 0 100000 (vend (E 8) 0 (fb Tryd.f38).1.results.toList false kk) (d + 1) f38t4 (f38s0 xs ys i) = kk (.bool (decide (xs.drop i = ys.drop i))) []
 | 0, i, h => by
   rw [vrun_succ, f38_0, bif_neg (by simp; omega)]
   rw [List.drop_eq_nil_of_le (by omega), List.drop_eq_nil_of_le (by omega)]
   rfl
 | d + 1, i, h => by
   have hx : i < xs.length := by omega
   have hy : i < ys.length := by omega
   rw [vrun_succ, f38_0, bif_pos (by simp; omega), idx_nat, idx_nat, List.getElem?_eq_getElem hx, List.getElem?_eq_getElem hy]
   dsimp only
   rw [List.drop_eq_getElem_cons hx, List.drop_eq_getElem_cons hy]
   by_cases he : xs[i] = ys[i]
   ·rw [bif_neg (by simp [he]), wrap_succ (by omega), f38_loop kk xs ys hl hb d (i + 1) (by omega)]
    simp only [he, List.cons.injEq, true_and]
   ·rw [bif_pos (by simp [he])]
    simp only [he, List.cons.injEq, false_and, decide_false]
theorem f38_run {R : Type} (kk : V → List Ob → Option R) (xs ys : List Bool) (hb : xs.length < 4611686018427387904) :
  ∃ n, vrun (E 8) f38cuts 0 100000 (vend (E 8) 0 (fb Tryd.f38).1.results.toList false kk) n [.code (fb Tryd.f38).2] (start [.sl rB xs, .sl rB ys] []) = kk (.bool (decide (xs = ys))) [] := by
 by_cases hl : xs.length = ys.length
 ·refine ⟨xs.length + 1 + 1, ?_⟩
  rw [vrun_succ, f38_go, bif_neg (by simp [hl])]
  exact f38_loop kk xs ys hl hb xs.length 0 (by omega)
 ·refine ⟨1, ?_⟩
  rw [vrun_succ, f38_go, bif_pos (by simp; omega)]
  have : xs ≠ ys := fun e => hl (by rw [e])
  simp [this]
theorem f37_loop {R : Type} (kk : V → List Ob → Option R) (xs ys : List (Int × Int × Int)) (hl : xs.length = ys.length) (hb : xs.length < 4611686018427387904) : (d i : Nat) → i + d = xs.length →
  vrun (E 8) f37cuts 0 100000 (vend (E 8) 0 (fb Tryd.f37).1.results.toList false kk) (d + 1) f37t4 (f37s0 xs ys i) = kk (.bool (decide (xs.drop i = ys.drop i))) []
 | 0, i, h => by
   rw [vrun_succ, f37_0, bif_neg (by simp; omega)]
   rw [List.drop_eq_nil_of_le (by omega), List.drop_eq_nil_of_le (by omega)]
   rfl
 | d + 1, i, h => by
   have hx : i < xs.length := by omega
   have hy : i < ys.length := by omega
   rw [vrun_succ, f37_0, bif_pos (by simp; omega), idx_nat, idx_nat, List.getElem?_eq_getElem hx, List.getElem?_eq_getElem hy]
   dsimp only
   rw [List.drop_eq_getElem_cons hx, List.drop_eq_getElem_cons hy]
   by_cases he : xs[i] = ys[i]
   ·rw [bif_neg (by rw [p3_eq]; simp [he]), wrap_succ (by omega), f37_loop kk xs ys hl hb d (i + 1) (by omega)]
    simp only [he, List.cons.injEq, true_and]
   ·rw [bif_pos (by rw [p3_eq]; simp [he])]
    simp only [he, List.cons.injEq, false_and, decide_false]
theorem f37_run {R : Type} (kk : V → List Ob → Option R) (xs ys : List (Int × Int × Int)) (hb : xs.length < 4611686018427387904) :
  ∃ n, vrun (E 8) f37cuts 0 100000 (vend (E 8) 0 (fb Tryd.f37).1.results.toList false kk) n [.code (fb Tryd.f37).2] (start [.sl rPitch xs, .sl rPitch ys] []) = kk (.bool (decide (xs = ys))) [] := by
 by_cases hl : xs.length = ys.length
 ·refine ⟨xs.length + 1 + 1, ?_⟩
  rw [vrun_succ, f37_go, bif_neg (by simp [hl])]
  exact f37_loop kk xs ys hl hb xs.length 0 (by omega)
 ·refine ⟨1, ?_⟩
  rw [vrun_succ, f37_go, bif_pos (by simp; omega)]
  have : xs ≠ ys := fun e => hl (by rw [e])
  simp [this]
end Vm.S6b
open Go Go.Proofs
namespace Vm.S6b
abbrev srI : Ks := .cons (.sl rI) .nil
abbrev srB : Ks := .cons (.sl rB) .nil
abbrev srP : Ks := .cons (.sl rPitch) .nil
noncomputable def f39e : Entry Tryd.prog gls := .two 39 false srI false srI (by intro h; cases h <;> rfl) (by intro h; cases h <;> rfl) (fun (x : List Int) (y : List Int) => (decide (x.length < 4611686018427387904), .bool (decide (x = y)))) fun x y h => by
 obtain ⟨n, hn⟩ := f39_run (fun v os => some (v, os)) x y (of_decide_eq_true h)
 exact contract_run (fn := (fb Tryd.f39).1) (c := (fb Tryd.f39).2) mixed (ready 8) (glE 8) Tryd.func39 (by kernel_rfl) rfl rfl (by kernel_rfl) hn
noncomputable def f38e : Entry Tryd.prog gls := .two 38 false srB false srB (by intro h; cases h <;> rfl) (by intro h; cases h <;> rfl) (fun (x : List Bool) (y : List Bool) => (decide (x.length < 4611686018427387904), .bool (decide (x = y)))) fun x y h => by
 obtain ⟨n, hn⟩ := f38_run (fun v os => some (v, os)) x y (of_decide_eq_true h)
 exact contract_run (fn := (fb Tryd.f38).1) (c := (fb Tryd.f38).2) mixed (ready 8) (glE 8) Tryd.func38 (by kernel_rfl) rfl rfl (by kernel_rfl) hn
noncomputable def f37e : Entry Tryd.prog gls := .two 37 false srP false srP (by intro h; cases h <;> rfl) (by intro h; cases h <;> rfl) (fun (x : List (Int × Int × Int)) (y : List (Int × Int × Int)) => (decide (x.length < 4611686018427387904), .bool (decide (x = y)))) fun x y h => by
 obtain ⟨n, hn⟩ := f37_run (fun v os => some (v, os)) x y (of_decide_eq_true h)
 exact contract_run (fn := (fb Tryd.f37).1) (c := (fb Tryd.f37).2) mixed (ready 8) (glE 8) Tryd.func37 (by kernel_rfl) rfl rfl (by kernel_rfl) hn
noncomputable def es1 : List (Entry Tryd.prog gls) := [f37e, f38e, f39e]
noncomputable def E1 (n : Nat) : Env := interp fns (look tys) gls mvs (tabOf es1) 100000 n
theorem ready1 (n : Nat) : Ready Tryd.prog (E1 n) := ready_of mixed fnsAll tysOk rfsOk n
theorem glE1 (n : Nat) : (E1 n).gl = gls := by cases n <;> rfl
end Vm.S6b
open Go Go.Proofs Go.IntKind
namespace Vm.S6b
variable {R : Type} (J : List Item → St → Option R) (kk : V → List Ob → Option R)
noncomputable abbrev f15cuts : Cuts := fun _ => none
theorem f15_go (x y : Ev) :
 vseg (E1 8) f15cuts 0 J (vend (E1 8) 0 (fb Tryd.f15).1.results.toList false kk) 100000 true [.code (fb Tryd.f15).2] (start ([enc true rEvent x, enc true rEvent y]) ([])) =
 (bif decide (x.fst = y.fst) then
 (bif decide (x.snd.snd.snd.fst = y.snd.snd.snd.fst) && (decide (x.snd.snd.snd.snd.fst = y.snd.snd.snd.snd.fst) && (decide (x.snd.snd.snd.snd.snd.fst = y.snd.snd.snd.snd.snd.fst) && decide (x.snd.snd.snd.snd.snd.snd.fst = y.snd.snd.snd.snd.snd.snd.fst))) then
 (bif x.snd.snd.snd.snd.snd.snd.snd.snd == y.snd.snd.snd.snd.snd.snd.snd.snd then
 (bif decide (List.length x.snd.fst < (4611686018427387904 : Nat)) then
 (bif decide (x.snd.fst = y.snd.fst) then
 (bif decide (List.length x.snd.snd.fst < (4611686018427387904 : Nat)) then
 (bif decide (x.snd.snd.fst = y.snd.snd.fst) then
 (bif decide (List.length x.snd.snd.snd.snd.snd.snd.snd.fst < (4611686018427387904 : Nat)) then
 kk (V.bool (decide (x.snd.snd.snd.snd.snd.snd.snd.fst = y.snd.snd.snd.snd.snd.snd.snd.fst))) ([])
 else none)
 else kk (V.bool false) ([]))
 else none)
 else kk (V.bool false) ([]))
 else none)
 else kk (V.bool false) ([]))
 else kk (V.bool false) ([]))
 else kk (V.bool false) ([])) := by kernel_rfl
noncomputable abbrev f12cuts : Cuts := look [(4, [2, 3, 5]), (9, [2, 3, 6]), (14, [2, 3, 7])]
noncomputable abbrev f12t14 : List Item := itemsAt (fb Tryd.f12).2 14
noncomputable abbrev f12t9 : List Item := itemsAt (fb Tryd.f12).2 9
noncomputable abbrev f12t4 : List Item := itemsAt (fb Tryd.f12).2 4
def f12s0 (n1 : Int) (x2 x3 : Ev) : St := { fr := [(2, V.ref 0 0 0 0), (3, V.ref 1 0 0 0), (5, V.int i64 n1)], hp := [(0, Ob.var [V.int i64 x2.fst, V.sl rPitch x2.snd.fst, V.sl rB x2.snd.snd.fst, V.int i64 x2.snd.snd.snd.fst, V.int i64 x2.snd.snd.snd.snd.fst, V.int i64 x2.snd.snd.snd.snd.snd.fst, V.int i64 x2.snd.snd.snd.snd.snd.snd.fst, V.sl rI x2.snd.snd.snd.snd.snd.snd.snd.fst, V.str x2.snd.snd.snd.snd.snd.snd.snd.snd]), (1, Ob.var [V.int i64 x3.fst, V.sl rPitch x3.snd.fst, V.sl rB x3.snd.snd.fst, V.int i64 x3.snd.snd.snd.fst, V.int i64 x3.snd.snd.snd.snd.fst, V.int i64 x3.snd.snd.snd.snd.snd.fst, V.int i64 x3.snd.snd.snd.snd.snd.snd.fst, V.sl rI x3.snd.snd.snd.snd.snd.snd.snd.fst, V.str x3.snd.snd.snd.snd.snd.snd.snd.snd])], nx := 2 }
def f12s1 (n6 : Int) (x7 x8 : Ev) : St := { fr := [(2, V.ref 0 0 0 0), (3, V.ref 1 0 0 0), (6, V.int i64 n6)], hp := [(0, Ob.var [V.int i64 x7.fst, V.sl rPitch x7.snd.fst, V.sl rB x7.snd.snd.fst, V.int i64 x7.snd.snd.snd.fst, V.int i64 x7.snd.snd.snd.snd.fst, V.int i64 x7.snd.snd.snd.snd.snd.fst, V.int i64 x7.snd.snd.snd.snd.snd.snd.fst, V.sl rI x7.snd.snd.snd.snd.snd.snd.snd.fst, V.str x7.snd.snd.snd.snd.snd.snd.snd.snd]), (1, Ob.var [V.int i64 x8.fst, V.sl rPitch x8.snd.fst, V.sl rB x8.snd.snd.fst, V.int i64 x8.snd.snd.snd.fst, V.int i64 x8.snd.snd.snd.snd.fst, V.int i64 x8.snd.snd.snd.snd.snd.fst, V.int i64 x8.snd.snd.snd.snd.snd.snd.fst, V.sl rI x8.snd.snd.snd.snd.snd.snd.snd.fst, V.str x8.snd.snd.snd.snd.snd.snd.snd.snd])], nx := 2 }
def f12s2 (n11 : Int) (x12 x13 : Ev) : St := { fr := [(2, V.ref 0 0 0 0), (3, V.ref 1 0 0 0), (7, V.int i64 n11)], hp := [(0, Ob.var [V.int i64 x12.fst, V.sl rPitch x12.snd.fst, V.sl rB x12.snd.snd.fst, V.int i64 x12.snd.snd.snd.fst, V.int i64 x12.snd.snd.snd.snd.fst, V.int i64 x12.snd.snd.snd.snd.snd.fst, V.int i64 x12.snd.snd.snd.snd.snd.snd.fst, V.sl rI x12.snd.snd.snd.snd.snd.snd.snd.fst, V.str x12.snd.snd.snd.snd.snd.snd.snd.snd]), (1, Ob.var [V.int i64 x13.fst, V.sl rPitch x13.snd.fst, V.sl rB x13.snd.snd.fst, V.int i64 x13.snd.snd.snd.fst, V.int i64 x13.snd.snd.snd.snd.fst, V.int i64 x13.snd.snd.snd.snd.snd.fst, V.int i64 x13.snd.snd.snd.snd.snd.snd.fst, V.sl rI x13.snd.snd.snd.snd.snd.snd.snd.fst, V.str x13.snd.snd.snd.snd.snd.snd.snd.snd])], nx := 2 }
theorem f12_go (x y : Ev) :
 vseg (E1 8) f12cuts 0 J (vend (E1 8) 0 (fb Tryd.f12).1.results.toList false kk) 100000 true [.code (fb Tryd.f12).2] (start ([enc true rEvent x, enc true rEvent y]) ([])) =
 (bif !decide (x.fst = y.fst) then
 kk (V.bool false) ([])
 else (bif !(decide (x.snd.snd.snd.fst = y.snd.snd.snd.fst) && (decide (x.snd.snd.snd.snd.fst = y.snd.snd.snd.snd.fst) && (decide (x.snd.snd.snd.snd.snd.fst = y.snd.snd.snd.snd.snd.fst) && decide (x.snd.snd.snd.snd.snd.snd.fst = y.snd.snd.snd.snd.snd.snd.fst)))) then
 kk (V.bool false) ([])
 else (bif !x.snd.snd.snd.snd.snd.snd.snd.snd == y.snd.snd.snd.snd.snd.snd.snd.snd then
 kk (V.bool false) ([])
 else (bif !decide ((↑(List.length x.snd.fst) : Int) = (↑(List.length y.snd.fst) : Int)) then
 kk (V.bool false) ([])
 else (bif !decide ((↑(List.length x.snd.snd.fst) : Int) = (↑(List.length y.snd.snd.fst) : Int)) then
 kk (V.bool false) ([])
 else (bif !decide ((↑(List.length x.snd.snd.snd.snd.snd.snd.snd.fst) : Int) = (↑(List.length y.snd.snd.snd.snd.snd.snd.snd.fst) : Int)) then
 kk (V.bool false) ([])
 else J f12t4 (f12s0 (0 : Int) x y))))))) := by kernel_rfl
theorem f12_0 (n1 : Int) (x2 x3 : Ev) :
 vseg (E1 8) f12cuts 0 J (vend (E1 8) 0 (fb Tryd.f12).1.results.toList false kk) 100000 true f12t4 (f12s0 n1 x2 x3) =
 (bif decide (n1 < (↑x2.snd.fst.length : Int)) then
 (match idx x2.snd.fst n1 with
 | some y4 => (match idx x3.snd.fst n1 with
 | some y5 => (bif !(decide (y4.fst = y5.fst) && (decide (y4.snd.fst = y5.snd.fst) && decide (y4.snd.snd = y5.snd.snd))) then
 kk (V.bool false) ([])
 else J f12t4 (f12s0 (i64.wrap (n1 + (1 : Int))) x2 x3))
 | none => none)
 | none => none)
 else J f12t9 (f12s1 (0 : Int) x2 x3)) := by kernel_rfl
theorem f12_1 (n6 : Int) (x7 x8 : Ev) :
 vseg (E1 8) f12cuts 0 J (vend (E1 8) 0 (fb Tryd.f12).1.results.toList false kk) 100000 true f12t9 (f12s1 n6 x7 x8) =
 (bif decide (n6 < (↑x7.snd.snd.fst.length : Int)) then
 (match idx x7.snd.snd.fst n6 with
 | some y9 => (match idx x8.snd.snd.fst n6 with
 | some y10 => (bif !y9 == y10 then
 kk (V.bool false) ([])
 else J f12t9 (f12s1 (i64.wrap (n6 + (1 : Int))) x7 x8))
 | none => none)
 | none => none)
 else J f12t14 (f12s2 (0 : Int) x7 x8)) := by kernel_rfl
theorem f12_2 (n11 : Int) (x12 x13 : Ev) :
 vseg (E1 8) f12cuts 0 J (vend (E1 8) 0 (fb Tryd.f12).1.results.toList false kk) 100000 true f12t14 (f12s2 n11 x12 x13) =
 (bif decide (n11 < (↑x12.snd.snd.snd.snd.snd.snd.snd.fst.length : Int)) then
 (match idx x12.snd.snd.snd.snd.snd.snd.snd.fst n11 with
 | some y14 => (match idx x13.snd.snd.snd.snd.snd.snd.snd.fst n11 with
 | some y15 => (bif !decide (y14 = y15) then
 kk (V.bool false) ([])
 else J f12t14 (f12s2 (i64.wrap (n11 + (1 : Int))) x12 x13))
 | none => none)
 | none => none)
 else kk (V.bool true) ([])) := by kernel_rfl
end Vm.S6b
open Go Go.Proofs Go.IntKind
namespace Vm.S6b
variable {R : Type} (J : List Item → St → Option R) (kk : V → List Ob → Option R)
noncomputable abbrev f40acuts : Cuts := fun _ => none
theorem f40a_go (x : Bool) (xs : List Bool) :
 vseg (E 8) f40acuts 0 J (vend (E 8) 0 (fb Tryd.f40).1.results.toList false kk) 100000 true [.code (fb Tryd.f40).2] (start ([V.sl rB
 (have this := x :: xs;
 this)]) ([])) =
 (bif decide
 (((List.replicate (0 : Nat) false).length +
 (have this := x :: xs;
 this).length) *
 1 ≤
 bytesMost) then
 kk (V.sl rB
 (List.replicate (0 : Nat) false ++
 have this := x :: xs;
 this)) ([])
 else none) := by kernel_rfl
noncomputable abbrev f40bcuts : Cuts := fun _ => none
theorem f40b_go :
 vseg (E 8) f40bcuts 0 J (vend (E 8) 0 (fb Tryd.f40).1.results.toList false kk) 100000 true [.code (fb Tryd.f40).2] (start ([V.nilsl]) ([])) =
 kk (V.nilsl) ([]) := by kernel_rfl
noncomputable abbrev f40ccuts : Cuts := fun _ => none
theorem f40c_go :
 vseg (E 8) f40ccuts 0 J (vend (E 8) 0 (fb Tryd.f40).1.results.toList false kk) 100000 true [.code (fb Tryd.f40).2] (start ([V.emp rB false]) ([])) =
 kk (V.sl rB []) ([]) := by kernel_rfl
noncomputable abbrev f41acuts : Cuts := fun _ => none
theorem f41a_go (x : Int) (xs : List Int) :
 vseg (E 8) f41acuts 0 J (vend (E 8) 0 (fb Tryd.f41).1.results.toList false kk) 100000 true [.code (fb Tryd.f41).2] (start ([V.sl rI
 (have this := x :: xs;
 this)]) ([])) =
 (bif decide
 (((List.replicate (0 : Nat) (Int.ofNat (0 : Nat))).length +
 (have this := x :: xs;
 this).length) *
 8 ≤
 bytesMost) then
 kk (V.sl rI
 (List.replicate (0 : Nat) (Int.ofNat (0 : Nat)) ++
 have this := x :: xs;
 this)) ([])
 else none) := by kernel_rfl
noncomputable abbrev f41bcuts : Cuts := fun _ => none
theorem f41b_go :
 vseg (E 8) f41bcuts 0 J (vend (E 8) 0 (fb Tryd.f41).1.results.toList false kk) 100000 true [.code (fb Tryd.f41).2] (start ([V.nilsl]) ([])) =
 kk (V.nilsl) ([]) := by kernel_rfl
noncomputable abbrev f41ccuts : Cuts := fun _ => none
theorem f41c_go :
 vseg (E 8) f41ccuts 0 J (vend (E 8) 0 (fb Tryd.f41).1.results.toList false kk) 100000 true [.code (fb Tryd.f41).2] (start ([V.emp rI false]) ([])) =
 kk (V.sl rI []) ([]) := by kernel_rfl
end Vm.S6b
open Go Go.Proofs
namespace Vm.S6b
theorem f15_run {R : Type} (kk : V → List Ob → Option R) (x y : Ev) (h : Ev.small x = true) :
  ∃ n, vrun (E1 8) f15cuts 0 100000 (vend (E1 8) 0 (fb Tryd.f15).1.results.toList false kk) n [.code (fb Tryd.f15).2] (start [enc true rEvent x, enc true rEvent y] []) = kk (.bool (Ev.same x y)) [] := by
 refine ⟨1, ?_⟩
 rw [vrun_succ, f15_go]
 obtain ⟨a1, a2, a3, a4, a5, a6, a7, a8, a9⟩ := x
 obtain ⟨b1, b2, b3, b4, b5, b6, b7, b8, b9⟩ := y
 simp only [Ev.small, Bool.and_eq_true, decide_eq_true_eq] at h
 obtain ⟨h1, h2, h3⟩ := h
 simp only [h1, h2, h3, decide_true, cond_true, Ev.same, Bool.cond_eq_ite, Bool.and_eq_true, decide_eq_true_eq, beq_iff_eq]
 repeat' split
 all_goals first | (simp_all; done) | grind
theorem f12_loop2 {R : Type} (kk : V → List Ob → Option R) (x y : Ev) (hl : x.2.2.2.2.2.2.2.1.length = y.2.2.2.2.2.2.2.1.length) (hb : x.2.2.2.2.2.2.2.1.length < 4611686018427387904) : (d i : Nat) → i + d = x.2.2.2.2.2.2.2.1.length → ∀ N,
  vrun (E1 8) f12cuts 0 100000 (vend (E1 8) 0 (fb Tryd.f12).1.results.toList false kk) (N + d + 1) f12t14 (f12s2 i x y) = bif decide (x.2.2.2.2.2.2.2.1.drop i = y.2.2.2.2.2.2.2.1.drop i) then kk (.bool true) [] else kk (.bool false) []
 | 0, i, h, N => by
   rw [vrun_succ, f12_2, bif_neg (by simp; omega)]
   rw [List.drop_eq_nil_of_le (by omega), List.drop_eq_nil_of_le (by omega)]
   simp
 | d + 1, i, h, N => by
   have hx : i < x.2.2.2.2.2.2.2.1.length := by omega
   have hy : i < y.2.2.2.2.2.2.2.1.length := by omega
   rw [vrun_succ, f12_2, bif_pos (by simp; omega), idx_nat, idx_nat, List.getElem?_eq_getElem hx, List.getElem?_eq_getElem hy]
   dsimp only
   rw [List.drop_eq_getElem_cons hx, List.drop_eq_getElem_cons hy]
   by_cases he : x.2.2.2.2.2.2.2.1[i] = y.2.2.2.2.2.2.2.1[i]
   ·rw [bif_neg (by simp [he]), wrap_succ (by omega), ← Nat.add_assoc N d 1, f12_loop2 kk x y hl hb d (i + 1) (by omega) N]
    simp only [he, List.cons.injEq, true_and]
   ·rw [bif_pos (by simp [he])]
    simp only [he, List.cons.injEq, false_and, decide_false, cond_false]
theorem f12_loop1 {R : Type} (kk : V → List Ob → Option R) (x y : Ev) (hl : x.2.2.1.length = y.2.2.1.length) (hb : x.2.2.1.length < 4611686018427387904) : (d i : Nat) → i + d = x.2.2.1.length → ∀ N,
  vrun (E1 8) f12cuts 0 100000 (vend (E1 8) 0 (fb Tryd.f12).1.results.toList false kk) (N + d + 1) f12t9 (f12s1 i x y) = bif decide (x.2.2.1.drop i = y.2.2.1.drop i) then vrun (E1 8) f12cuts 0 100000 (vend (E1 8) 0 (fb Tryd.f12).1.results.toList false kk) N f12t14 (f12s2 0 x y) else kk (.bool false) []
 | 0, i, h, N => by
   rw [vrun_succ, f12_1, bif_neg (by simp; omega)]
   rw [List.drop_eq_nil_of_le (by omega), List.drop_eq_nil_of_le (by omega)]
   simp
 | d + 1, i, h, N => by
   have hx : i < x.2.2.1.length := by omega
   have hy : i < y.2.2.1.length := by omega
   rw [vrun_succ, f12_1, bif_pos (by simp; omega), idx_nat, idx_nat, List.getElem?_eq_getElem hx, List.getElem?_eq_getElem hy]
   dsimp only
   rw [List.drop_eq_getElem_cons hx, List.drop_eq_getElem_cons hy]
   by_cases he : x.2.2.1[i] = y.2.2.1[i]
   ·rw [bif_neg (by simp [he]), wrap_succ (by omega), ← Nat.add_assoc N d 1, f12_loop1 kk x y hl hb d (i + 1) (by omega) N]
    simp only [he, List.cons.injEq, true_and]
   ·rw [bif_pos (by simp [he])]
    simp only [he, List.cons.injEq, false_and, decide_false, cond_false]
theorem f12_loop0 {R : Type} (kk : V → List Ob → Option R) (x y : Ev) (hl : x.2.1.length = y.2.1.length) (hb : x.2.1.length < 4611686018427387904) : (d i : Nat) → i + d = x.2.1.length → ∀ N,
  vrun (E1 8) f12cuts 0 100000 (vend (E1 8) 0 (fb Tryd.f12).1.results.toList false kk) (N + d + 1) f12t4 (f12s0 i x y) = bif decide (x.2.1.drop i = y.2.1.drop i) then vrun (E1 8) f12cuts 0 100000 (vend (E1 8) 0 (fb Tryd.f12).1.results.toList false kk) N f12t9 (f12s1 0 x y) else kk (.bool false) []
 | 0, i, h, N => by
   rw [vrun_succ, f12_0, bif_neg (by simp; omega)]
   rw [List.drop_eq_nil_of_le (by omega), List.drop_eq_nil_of_le (by omega)]
   simp
 | d + 1, i, h, N => by
   have hx : i < x.2.1.length := by omega
   have hy : i < y.2.1.length := by omega
   rw [vrun_succ, f12_0, bif_pos (by simp; omega), idx_nat, idx_nat, List.getElem?_eq_getElem hx, List.getElem?_eq_getElem hy]
   dsimp only
   rw [List.drop_eq_getElem_cons hx, List.drop_eq_getElem_cons hy]
   by_cases he : x.2.1[i] = y.2.1[i]
   ·rw [bif_neg (by rw [p3_eq]; simp [he]), wrap_succ (by omega), ← Nat.add_assoc N d 1, f12_loop0 kk x y hl hb d (i + 1) (by omega) N]
    simp only [he, List.cons.injEq, true_and]
   ·rw [bif_pos (by rw [p3_eq]; simp [he])]
    simp only [he, List.cons.injEq, false_and, decide_false, cond_false]
theorem f12_run {R : Type} (kk : V → List Ob → Option R) (x y : Ev) (h : Ev.small x = true) :
  ∃ n, vrun (E1 8) f12cuts 0 100000 (vend (E1 8) 0 (fb Tryd.f12).1.results.toList false kk) n [.code (fb Tryd.f12).2] (start [enc true rEvent x, enc true rEvent y] []) = kk (.bool (Ev.same x y)) [] := by
 refine ⟨0 + x.2.2.2.2.2.2.2.1.length + 1 + x.2.2.1.length + 1 + x.2.1.length + 1 + 1, ?_⟩
 rw [vrun_succ, f12_go]
 simp only [Ev.small, Bool.and_eq_true, decide_eq_true_eq] at h
 obtain ⟨h1, h2, h3⟩ := h
 by_cases l1 : x.2.1.length = y.2.1.length
 ·by_cases l2 : x.2.2.1.length = y.2.2.1.length
  ·by_cases l3 : x.2.2.2.2.2.2.2.1.length = y.2.2.2.2.2.2.2.1.length
   ·have e0 := f12_loop0 kk x y l1 h1 x.2.1.length 0 (by omega) (0 + x.2.2.2.2.2.2.2.1.length + 1 + x.2.2.1.length + 1)
    have e1 := f12_loop1 kk x y l2 h2 x.2.2.1.length 0 (by omega) (0 + x.2.2.2.2.2.2.2.1.length + 1)
    have e2 := f12_loop2 kk x y l3 h3 x.2.2.2.2.2.2.2.1.length 0 (by omega) 0
    simp only [List.drop_zero] at e0 e1 e2
    have z : Int.ofNat 0 = ((0 : Nat) : Int) := rfl
    rw [show (0 : Int) = ((0 : Nat) : Int) from rfl, e0, show (0 : Int) = ((0 : Nat) : Int) from rfl, e1, show (0 : Int) = ((0 : Nat) : Int) from rfl, e2]
    simp only [Ev.same, l1, l2, l3, decide_true, Bool.not_true, cond_false, Bool.cond_eq_ite, Bool.and_eq_true, decide_eq_true_eq, beq_iff_eq, Bool.not_eq_true']
    repeat' split
    all_goals (clear e0 e1 e2; refine congrArg (fun b => kk (V.bool b) []) ?_; first | (simp_all; done) | grind)
   ·have : x.2.2.2.2.2.2.2.1 ≠ y.2.2.2.2.2.2.2.1 := fun e => l3 (by rw [e])
    simp [l3, l1, l2, Ev.same, this, Bool.cond_eq_ite]
    try (intros; omega)
  ·have : x.2.2.1 ≠ y.2.2.1 := fun e => l2 (by rw [e])
   simp [l2, l1, Ev.same, this, Bool.cond_eq_ite]
   try (intros; omega)
 ·have : x.2.1 ≠ y.2.1 := fun e => l1 (by rw [e])
  simp [l1, Ev.same, this, Bool.cond_eq_ite]
  try (intros; omega)
end Vm.S6b
open Go Go.Proofs
namespace Vm.S6b
theorem f40_c (xs : List Bool) (h : decide (xs.length * 1 ≤ bytesMost) = true) : Contract Tryd.prog gls 40 [.sl rB xs] [] (.sl rB xs) [] := by
 refine slice_cases (r := rB) (g := fun xs => .sl rB xs) (c := fun (xs : List Bool) => decide (xs.length * 1 ≤ bytesMost)) (fun x xs h => ?_) (u := .nilsl) ?_ (v := .sl rB []) ?_ (fun _ _ _ _ => nil_sl) (fun _ _ _ _ hr => hr) rfl xs h
 ·have hn : vrun (E 8) f40acuts 0 100000 (vend (E 8) 0 (fb Tryd.f40).1.results.toList false fun v os => some (v, os)) 1 [.code (fb Tryd.f40).2] (start [.sl rB (x :: xs)] []) = some (.sl rB (x :: xs), []) := by
    rw [vrun_succ]
    refine (f40a_go (vrun (E 8) f40acuts 0 100000 (vend (E 8) 0 (fb Tryd.f40).1.results.toList false fun v os => some (v, os)) 0) (fun v os => some (v, os)) x xs).trans ?_
    have h' : (List.length (x :: xs)) * 1 ≤ bytesMost := of_decide_eq_true h
    rw [bif_pos (decide_eq_true (by rw [List.length_replicate, Nat.zero_add]; exact h'))]
    rfl
  exact contract_run (fn := (fb Tryd.f40).1) (c := (fb Tryd.f40).2) mixed (ready 8) (glE 8) Tryd.func40 (by kernel_rfl) rfl rfl (by kernel_rfl) hn
 ·have hn : vrun (E 8) f40bcuts 0 100000 (vend (E 8) 0 (fb Tryd.f40).1.results.toList false fun v os => some (v, os)) 1 [.code (fb Tryd.f40).2] (start [.nilsl] []) = some (.nilsl, []) := by
    rw [vrun_succ]; exact f40b_go _ _
  exact contract_run (fn := (fb Tryd.f40).1) (c := (fb Tryd.f40).2) mixed (ready 8) (glE 8) Tryd.func40 (by kernel_rfl) rfl rfl (by kernel_rfl) hn
 ·have hn : vrun (E 8) f40ccuts 0 100000 (vend (E 8) 0 (fb Tryd.f40).1.results.toList false fun v os => some (v, os)) 1 [.code (fb Tryd.f40).2] (start [.emp rB false] []) = some (.sl rB [], []) := by
    rw [vrun_succ]; exact f40c_go _ _
  exact contract_run (fn := (fb Tryd.f40).1) (c := (fb Tryd.f40).2) mixed (ready 8) (glE 8) Tryd.func40 (by kernel_rfl) rfl rfl (by kernel_rfl) hn
noncomputable def f40e : Entry Tryd.prog gls := .one 40 false (.cons (.sl rB) .nil) (by intro h; cases h <;> rfl) (fun (x : List Bool) => (decide (x.length * 1 ≤ bytesMost), .sl rB x)) fun x h => f40_c x h
theorem f41_c (xs : List Int) (h : decide (xs.length * 8 ≤ bytesMost) = true) : Contract Tryd.prog gls 41 [.sl rI xs] [] (.sl rI xs) [] := by
 refine slice_cases (r := rI) (g := fun xs => .sl rI xs) (c := fun (xs : List Int) => decide (xs.length * 8 ≤ bytesMost)) (fun x xs h => ?_) (u := .nilsl) ?_ (v := .sl rI []) ?_ (fun _ _ _ _ => nil_sl) (fun _ _ _ _ hr => hr) rfl xs h
 ·have hn : vrun (E 8) f41acuts 0 100000 (vend (E 8) 0 (fb Tryd.f41).1.results.toList false fun v os => some (v, os)) 1 [.code (fb Tryd.f41).2] (start [.sl rI (x :: xs)] []) = some (.sl rI (x :: xs), []) := by
    rw [vrun_succ]
    refine (f41a_go (vrun (E 8) f41acuts 0 100000 (vend (E 8) 0 (fb Tryd.f41).1.results.toList false fun v os => some (v, os)) 0) (fun v os => some (v, os)) x xs).trans ?_
    have h' : (List.length (x :: xs)) * 8 ≤ bytesMost := of_decide_eq_true h
    rw [bif_pos (decide_eq_true (by rw [List.length_replicate, Nat.zero_add]; exact h'))]
    rfl
  exact contract_run (fn := (fb Tryd.f41).1) (c := (fb Tryd.f41).2) mixed (ready 8) (glE 8) Tryd.func41 (by kernel_rfl) rfl rfl (by kernel_rfl) hn
 ·have hn : vrun (E 8) f41bcuts 0 100000 (vend (E 8) 0 (fb Tryd.f41).1.results.toList false fun v os => some (v, os)) 1 [.code (fb Tryd.f41).2] (start [.nilsl] []) = some (.nilsl, []) := by
    rw [vrun_succ]; exact f41b_go _ _
  exact contract_run (fn := (fb Tryd.f41).1) (c := (fb Tryd.f41).2) mixed (ready 8) (glE 8) Tryd.func41 (by kernel_rfl) rfl rfl (by kernel_rfl) hn
 ·have hn : vrun (E 8) f41ccuts 0 100000 (vend (E 8) 0 (fb Tryd.f41).1.results.toList false fun v os => some (v, os)) 1 [.code (fb Tryd.f41).2] (start [.emp rI false] []) = some (.sl rI [], []) := by
    rw [vrun_succ]; exact f41c_go _ _
  exact contract_run (fn := (fb Tryd.f41).1) (c := (fb Tryd.f41).2) mixed (ready 8) (glE 8) Tryd.func41 (by kernel_rfl) rfl rfl (by kernel_rfl) hn
noncomputable def f41e : Entry Tryd.prog gls := .one 41 false (.cons (.sl rI) .nil) (by intro h; cases h <;> rfl) (fun (x : List Int) => (decide (x.length * 8 ≤ bytesMost), .sl rI x)) fun x h => f41_c x h
end Vm.S6b
open Go Go.Proofs
namespace Vm.S6b
noncomputable def f15e : Entry Tryd.prog gls := .two 15 true rEvent true rEvent (by intro h; cases h <;> rfl) (by intro h; cases h <;> rfl) (fun (x : Ev) (y : Ev) => (Ev.small x, .bool (Ev.same x y))) fun x y h => by
 obtain ⟨n, hn⟩ := f15_run (fun v os => some (v, os)) x y h
 exact contract_run (fn := (fb Tryd.f15).1) (c := (fb Tryd.f15).2) mixed (ready1 8) (glE1 8) Tryd.func15 (by kernel_rfl) rfl rfl (by kernel_rfl) hn
noncomputable def f12e : Entry Tryd.prog gls := .two 12 true rEvent true rEvent (by intro h; cases h <;> rfl) (by intro h; cases h <;> rfl) (fun (x : Ev) (y : Ev) => (Ev.small x, .bool (Ev.same x y))) fun x y h => by
 obtain ⟨n, hn⟩ := f12_run (fun v os => some (v, os)) x y h
 exact contract_run (fn := (fb Tryd.f12).1) (c := (fb Tryd.f12).2) mixed (ready1 8) (glE1 8) Tryd.func12 (by kernel_rfl) rfl rfl (by kernel_rfl) hn
noncomputable def es2 : List (Entry Tryd.prog gls) := [f37e, f38e, f39e, f40e, f41e, f15e, f12e]
noncomputable def E2 (n : Nat) : Env := interp fns (look tys) gls mvs (tabOf es2) 100000 n
theorem ready2 (n : Nat) : Ready Tryd.prog (E2 n) := ready_of mixed fnsAll tysOk rfsOk n
theorem glE2 (n : Nat) : (E2 n).gl = gls := by cases n <;> rfl
end Vm.S6b
open Go Go.Proofs
namespace Vm.S6b
theorem awake_go {R : Type} (kk : V → List Ob → Option R) : vrun (E2 14) (fun _ => none) 0 100000 (vend (E2 14) 0 (fb Tryd.f8).1.results.toList false kk) 1 [.code (fb Tryd.f8).2] (start [] []) = kk (.bool true) [] := by kernel_rfl
noncomputable def awakee : Entry Tryd.prog gls where
 f := 8
 g := fun args os => match args, os with
   | [], [] => some (true, .bool true, [])
   | _, _ => none
 says := fun args os c v os' h hc => by
  split at h
  ·cases h
   have hn := awake_go (fun v os => some (v, os))
   exact contract_run (fn := (fb Tryd.f8).1) (c := (fb Tryd.f8).2) mixed (ready2 14) (glE2 14) Tryd.func8 (by kernel_rfl) rfl rfl (by kernel_rfl) hn
  ·cases h
noncomputable def es3 : List (Entry Tryd.prog gls) := awakee :: es2
end Vm.S6b
open Go Go.Proofs Go.IntKind
namespace Vm.S6b
variable {R : Type} (J : List Item → St → Option R) (kk : V → List Ob → Option R)
noncomputable abbrev f29cuts : Cuts := look [(2, [1, 3]), (3, [1, 3, 4])]
noncomputable abbrev f29t3 : List Item := itemsAt (fb Tryd.f29).2 3
noncomputable abbrev f29t2 : List Item := itemsAt (fb Tryd.f29).2 2
def f29s0 (b1 : Bool) (x2 : Int × Int × Int × Int) : St := { fr := [(1, V.ref 0 0 0 0), (3, V.bool b1)], hp := [(0, Ob.var [V.int i64 x2.fst, V.int i64 x2.snd.fst, V.int i64 x2.snd.snd.fst, V.int i64 x2.snd.snd.snd])], nx := 1 }
def f29s1 (b3 b4 : Bool) (x5 : Int × Int × Int × Int) : St := { fr := [(1, V.ref 0 0 0 0), (3, V.bool b3), (4, V.bool b4)], hp := [(0, Ob.var [V.int i64 x5.fst, V.int i64 x5.snd.fst, V.int i64 x5.snd.snd.fst, V.int i64 x5.snd.snd.snd])], nx := 1 }
theorem f29_go (v : Int × Int × Int × Int) :
 vseg (E 8) f29cuts 0 J (vend (E 8) 0 (fb Tryd.f29).1.results.toList false kk) 100000 true [.code (fb Tryd.f29).2] (start ([enc true rVal v]) ([])) =
 (bif decide (v.snd.snd.fst = (0 : Int)) then
 J f29t2 (f29s0 (decide (v.snd.snd.snd = (0 : Int))) v)
 else J f29t2 (f29s0 (false) v)) := by kernel_rfl
theorem f29_0 (b1 : Bool) (x2 : Int × Int × Int × Int) :
 vseg (E 8) f29cuts 0 J (vend (E 8) 0 (fb Tryd.f29).1.results.toList false kk) 100000 true f29t2 (f29s0 b1 x2) =
 (bif decide ((2 : Int) ≤ x2.snd.snd.fst) then
 (bif decide (x2.snd.snd.fst ≤ (15 : Int)) then
 (bif decide ((1 : Int) ≤ x2.snd.snd.snd) then
 (bif decide (x2.snd.snd.snd ≤ (15 : Int)) then
 J f29t3 (f29s1 b1 (!decide (x2.snd.snd.fst = x2.snd.snd.snd)) x2)
 else J f29t3 (f29s1 b1 (false) x2))
 else J f29t3 (f29s1 b1 (false) x2))
 else J f29t3 (f29s1 b1 (false) x2))
 else J f29t3 (f29s1 b1 (false) x2)) := by kernel_rfl
theorem f29_1 (b3 b4 : Bool) (x5 : Int × Int × Int × Int) :
 vseg (E 8) f29cuts 0 J (vend (E 8) 0 (fb Tryd.f29).1.results.toList false kk) 100000 true f29t3 (f29s1 b3 b4 x5) =
 (bif decide ((0 : Int) ≤ x5.fst) then
 (bif decide (x5.fst ≤ (6 : Int)) then
 (bif decide ((0 : Int) ≤ x5.snd.fst) then
 (bif decide (x5.snd.fst ≤ (2 : Int)) then
 (bif b3 then
 kk (V.bool true) ([])
 else kk (V.bool b4) ([]))
 else kk (V.bool false) ([]))
 else kk (V.bool false) ([]))
 else kk (V.bool false) ([]))
 else kk (V.bool false) ([])) := by kernel_rfl
noncomputable abbrev f53cuts : Cuts := fun _ => none
theorem f53_go (v : Int × Int × Int × Int) :
 vseg (E 8) f53cuts 0 J (vend (E 8) 0 (fb Tryd.f53).1.results.toList false kk) 100000 true [.code (fb Tryd.f53).2] (start ([enc true rVal v]) ([])) =
 (bif decide (v.fst < (0 : Int)) then
 kk (V.bool false) ([])
 else (bif decide ((6 : Int) < v.fst) then
 kk (V.bool false) ([])
 else (bif decide (v.snd.fst < (0 : Int)) then
 kk (V.bool false) ([])
 else (bif decide ((2 : Int) < v.snd.fst) then
 kk (V.bool false) ([])
 else (bif decide (v.snd.snd.fst = (0 : Int)) then
 (bif decide (v.snd.snd.snd = (0 : Int)) then
 kk (V.bool true) ([])
 else (bif decide ((2 : Int) ≤ v.snd.snd.fst) then
 (bif decide (v.snd.snd.fst ≤ (15 : Int)) then
 (bif decide ((1 : Int) ≤ v.snd.snd.snd) then
 (bif decide (v.snd.snd.snd ≤ (15 : Int)) then
 kk (V.bool !decide (v.snd.snd.fst = v.snd.snd.snd)) ([])
 else kk (V.bool false) ([]))
 else kk (V.bool false) ([]))
 else kk (V.bool false) ([]))
 else kk (V.bool false) ([])))
 else (bif decide ((2 : Int) ≤ v.snd.snd.fst) then
 (bif decide (v.snd.snd.fst ≤ (15 : Int)) then
 (bif decide ((1 : Int) ≤ v.snd.snd.snd) then
 (bif decide (v.snd.snd.snd ≤ (15 : Int)) then
 kk (V.bool !decide (v.snd.snd.fst = v.snd.snd.snd)) ([])
 else kk (V.bool false) ([]))
 else kk (V.bool false) ([]))
 else kk (V.bool false) ([]))
 else kk (V.bool false) ([]))))))) := by kernel_rfl
noncomputable abbrev f34cuts : Cuts := fun _ => none
theorem f34_go (p : Int × Int × Int) :
 vseg (E 8) f34cuts 0 J (vend (E 8) 0 (fb Tryd.f34).1.results.toList false kk) 100000 true [.code (fb Tryd.f34).2] (start ([enc true rPitch p]) ([])) =
 (bif decide (p.fst < (0 : Int)) then
 kk (V.bool false) ([])
 else (bif decide ((7 : Int) ≤ p.fst) then
 kk (V.bool false) ([])
 else (bif decide (p.snd.snd < (-1 : Int)) then
 kk (V.bool false) ([])
 else (bif decide ((9 : Int) < p.snd.snd) then
 kk (V.bool false) ([])
 else (bif decide (p.snd.fst < (-2 : Int)) then
 kk (V.bool false) ([])
 else (bif decide ((2 : Int) < p.snd.fst) then
 kk (V.bool false) ([])
 else (match idx glHalf p.fst with
 | some y1 => (bif decide ((0 : Int) ≤ i64.wrap (i64.wrap (i64.wrap ((12 : Int) * i64.wrap (p.snd.snd + (1 : Int))) + y1) + p.snd.fst)) then
 kk (V.bool (decide (i64.wrap (i64.wrap (i64.wrap ((12 : Int) * i64.wrap (p.snd.snd + (1 : Int))) + y1) + p.snd.fst) ≤ (127 : Int)))) ([])
 else kk (V.bool false) ([]))
 | none => none))))))) := by kernel_rfl
noncomputable abbrev f56cuts : Cuts := fun _ => none
theorem f56_go (p : Int × Int × Int) :
 vseg (E 8) f56cuts 0 J (vend (E 8) 0 (fb Tryd.f56).1.results.toList false kk) 100000 true [.code (fb Tryd.f56).2] (start ([enc true rPitch p]) ([])) =
 (bif decide (p.fst < (0 : Int)) then
 kk (V.bool false) ([])
 else (bif decide ((6 : Int) < p.fst) then
 kk (V.bool false) ([])
 else (bif decide (p.snd.fst < (-2 : Int)) then
 kk (V.bool false) ([])
 else (bif decide ((2 : Int) < p.snd.fst) then
 kk (V.bool false) ([])
 else (bif decide (p.snd.snd < (-1 : Int)) then
 kk (V.bool false) ([])
 else (bif decide ((9 : Int) < p.snd.snd) then
 kk (V.bool false) ([])
 else (bif decide (p.fst < (3 : Int)) then
 (bif decide ((0 : Int) ≤ i64.wrap (i64.wrap (i64.wrap ((12 : Int) * i64.wrap (p.snd.snd + (1 : Int))) + i64.wrap ((2 : Int) * p.fst)) + p.snd.fst)) then
 kk (V.bool (decide (i64.wrap (i64.wrap (i64.wrap ((12 : Int) * i64.wrap (p.snd.snd + (1 : Int))) + i64.wrap ((2 : Int) * p.fst)) + p.snd.fst) ≤ (127 : Int)))) ([])
 else kk (V.bool false) ([]))
 else (bif decide ((0 : Int) ≤ i64.wrap (i64.wrap (i64.wrap ((12 : Int) * i64.wrap (p.snd.snd + (1 : Int))) + i64.wrap (i64.wrap ((2 : Int) * p.fst) - (1 : Int))) + p.snd.fst)) then
 kk (V.bool (decide (i64.wrap (i64.wrap (i64.wrap ((12 : Int) * i64.wrap (p.snd.snd + (1 : Int))) + i64.wrap (i64.wrap ((2 : Int) * p.fst) - (1 : Int))) + p.snd.fst) ≤ (127 : Int)))) ([])
 else kk (V.bool false) ([]))))))))) := by kernel_rfl
noncomputable abbrev f90cuts : Cuts := fun _ => none
theorem f90_go (s : List UInt8) :
 vseg (E 8) f90cuts 0 J (vend (E 8) 0 (fb Tryd.f90).1.results.toList false kk) 100000 true [.code (fb Tryd.f90).2] (start ([V.str s]) ([])) =
 (match idx s (0 : Int) with
 | some y1 => (match idx s (1 : Int) with
 | some y2 => (match idx s (2 : Int) with
 | some y3 => (match idx s (3 : Int) with
 | some y4 => (match idx s (4 : Int) with
 | some y5 => (match idx s (5 : Int) with
 | some y6 => (match idx s (6 : Int) with
 | some y7 => (match idx s (7 : Int) with
 | some y8 => kk (V.int u64 (bitop BinOp.or u64 (bitop BinOp.or u64 (bitop BinOp.or u64 (bitop BinOp.or u64 (bitop BinOp.or u64 (bitop BinOp.or u64 (bitop BinOp.or u64 (u64.wrap (↑y1.toNat : Int)) (u64.wrap (u64.wrap (↑y2.toNat : Int) * (2 : Int) ^ min (Int.toNat (8 : Int)) u64.bits))) (u64.wrap (u64.wrap (↑y3.toNat : Int) * (2 : Int) ^ min (Int.toNat (16 : Int)) u64.bits))) (u64.wrap (u64.wrap (↑y4.toNat : Int) * (2 : Int) ^ min (Int.toNat (24 : Int)) u64.bits))) (u64.wrap (u64.wrap (↑y5.toNat : Int) * (2 : Int) ^ min (Int.toNat (32 : Int)) u64.bits))) (u64.wrap (u64.wrap (↑y6.toNat : Int) * (2 : Int) ^ min (Int.toNat (40 : Int)) u64.bits))) (u64.wrap (u64.wrap (↑y7.toNat : Int) * (2 : Int) ^ min (Int.toNat (48 : Int)) u64.bits))) (u64.wrap (u64.wrap (↑y8.toNat : Int) * (2 : Int) ^ min (Int.toNat (56 : Int)) u64.bits)))) ([])
 | none => none)
 | none => none)
 | none => none)
 | none => none)
 | none => none)
 | none => none)
 | none => none)
 | none => none) := by kernel_rfl
noncomputable abbrev f50cuts : Cuts := fun _ => none
theorem f50_go (x y : Int) :
 vseg (E 8) f50cuts 0 J (vend (E 8) 0 (fb Tryd.f50).1.results.toList false kk) 100000 true [.code (fb Tryd.f50).2] (start ([V.int i64 x, V.int i64 y]) ([])) =
 (bif !decide (x = x) then
 (bif !decide (y = y) then
 kk (V.int i64 (0 : Int)) ([])
 else kk (V.int i64 ((-1 : Int))) ([]))
 else (bif !decide (y = y) then
 kk (V.int i64 (1 : Int)) ([])
 else (bif decide (x < y) then
 kk (V.int i64 ((-1 : Int))) ([])
 else (bif decide (y < x) then
 kk (V.int i64 (1 : Int)) ([])
 else kk (V.int i64 (0 : Int)) ([]))))) := by kernel_rfl
end Vm.S6b
open Go Go.Proofs
namespace Vm.S6b
theorem w64 {n : Int} (h₁ : -9223372036854775808 ≤ n) (h₂ : n ≤ 9223372036854775807) : IntKind.wrap .i64 n = n := wrap_i64 h₁ h₂
theorem f29_run {R : Type} (kk : V → List Ob → Option R) (v : Vl) :
  vrun (E 8) f29cuts 0 100000 (vend (E 8) 0 (fb Tryd.f29).1.results.toList false kk) 3 [.code (fb Tryd.f29).2] (start [enc true rVal v] []) = kk (.bool (Vl.right v)) [] := by
 have h1 : ∀ b1 b2, vrun (E 8) f29cuts 0 100000 (vend (E 8) 0 (fb Tryd.f29).1.results.toList false kk) 1 f29t3 (f29s1 b1 b2 v) = kk (.bool (decide (0 ≤ v.1 ∧ v.1 ≤ 6 ∧ 0 ≤ v.2.1 ∧ v.2.1 ≤ 2) && (b1 || b2))) [] := fun b1 b2 => by
  rw [vrun_succ, f29_1]
  simp only [bif_kb]
  refine congrArg (fun b => kk (V.bool b) []) ?_
  rw [Bool.eq_iff_iff]; simp only [cond_iff, decide_eq_true_eq, decide_eq_false_iff_not, Bool.and_eq_true, Bool.or_eq_true, Bool.false_eq_true, true_and, and_true, and_false, or_false]
  cases b1 <;> cases b2 <;> simp <;> omega
 rw [vrun_succ, f29_go]
 simp only [vrun_succ, f29_0] at h1 ⊢
 simp only [h1, bif_kb]
 refine congrArg (fun b => kk (V.bool b) []) ?_
 rw [Bool.eq_iff_iff]
 simp only [Vl.right, cond_iff, decide_eq_true_eq, decide_eq_false_iff_not, Bool.and_eq_true, Bool.or_eq_true, Bool.false_eq_true, Bool.not_eq_true', or_false]
 grind
theorem f53_run {R : Type} (kk : V → List Ob → Option R) (v : Vl) :
  vrun (E 8) f53cuts 0 100000 (vend (E 8) 0 (fb Tryd.f53).1.results.toList false kk) 1 [.code (fb Tryd.f53).2] (start [enc true rVal v] []) = kk (.bool (Vl.right v)) [] := by
 rw [vrun_succ, f53_go]
 simp only [bif_kb]
 refine congrArg (fun b => kk (V.bool b) []) ?_
 rw [Bool.eq_iff_iff]
 simp only [Vl.right, cond_iff, decide_eq_true_eq, decide_eq_false_iff_not, Bool.and_eq_true, Bool.or_eq_true, Bool.false_eq_true, Bool.not_eq_true', or_false]
 grind
theorem f34_run {R : Type} (kk : V → List Ob → Option R) (p : Pt) :
  vrun (E 8) f34cuts 0 100000 (vend (E 8) 0 (fb Tryd.f34).1.results.toList false kk) 1 [.code (fb Tryd.f34).2] (start [enc true rPitch p] []) = kk (.bool (Pt.right p)) [] := by
 rw [vrun_succ, f34_go]
 obtain ⟨a, b, c⟩ := p
 by_cases h : 0 ≤ a ∧ a ≤ 6 ∧ -2 ≤ b ∧ b ≤ 2 ∧ -1 ≤ c ∧ c ≤ 9
 ·obtain ⟨h1, h2, h3, h4, h5, h6⟩ := h
  have hh := Pt.half_le h1 h2
  dsimp only
  rw [bif_neg (by simp; omega), bif_neg (by simp; omega), bif_neg (by simp; omega), bif_neg (by simp; omega), bif_neg (by simp; omega), bif_neg (by simp; omega), show idx glHalf a = some (Pt.half a) from glHalf_idx h1 h2]
  dsimp only
  rw [w64 (n := c + 1) (by omega) (by omega), w64 (n := 12 * (c + 1)) (by omega) (by omega), w64 (n := 12 * (c + 1) + Pt.half a) (by omega) (by omega), w64 (n := 12 * (c + 1) + Pt.half a + b) (by omega) (by omega)]
  simp only [Pt.right, Pt.num, Bool.cond_eq_ite, decide_eq_true_eq]
  split <;> (refine congrArg (fun b => kk (V.bool b) []) ?_; rw [Bool.eq_iff_iff]; simp only [decide_eq_true_eq, true_iff, false_iff, Bool.false_eq_true]; first | omega | grind)
 ·simp only [Pt.right, Bool.cond_eq_ite, decide_eq_true_eq]
  repeat' split
  all_goals first | (exfalso; omega) | (refine congrArg (fun b => kk (V.bool b) []) ?_; rw [Bool.eq_iff_iff]; simp only [decide_eq_true_eq, true_iff, false_iff, Bool.false_eq_true]; first | omega | grind)
theorem f56_run {R : Type} (kk : V → List Ob → Option R) (p : Pt) :
  vrun (E 8) f56cuts 0 100000 (vend (E 8) 0 (fb Tryd.f56).1.results.toList false kk) 1 [.code (fb Tryd.f56).2] (start [enc true rPitch p] []) = kk (.bool (Pt.right p)) [] := by
 rw [vrun_succ, f56_go]
 obtain ⟨a, b, c⟩ := p
 by_cases h : 0 ≤ a ∧ a ≤ 6 ∧ -2 ≤ b ∧ b ≤ 2 ∧ -1 ≤ c ∧ c ≤ 9
 ·obtain ⟨h1, h2, h3, h4, h5, h6⟩ := h
  dsimp only
  rw [bif_neg (by simp; omega), bif_neg (by simp; omega), bif_neg (by simp; omega), bif_neg (by simp; omega), bif_neg (by simp; omega), bif_neg (by simp; omega)]
  rw [w64 (n := c + 1) (by omega) (by omega), w64 (n := 12 * (c + 1)) (by omega) (by omega), w64 (n := 2 * a) (by omega) (by omega), w64 (n := 2 * a - 1) (by omega) (by omega), w64 (n := 12 * (c + 1) + 2 * a) (by omega) (by omega), w64 (n := 12 * (c + 1) + (2 * a - 1)) (by omega) (by omega), w64 (n := 12 * (c + 1) + 2 * a + b) (by omega) (by omega), w64 (n := 12 * (c + 1) + (2 * a - 1) + b) (by omega) (by omega)]
  simp only [Pt.right, Pt.num, Pt.half, Bool.cond_eq_ite, decide_eq_true_eq]
  repeat' split
  all_goals (refine congrArg (fun b => kk (V.bool b) []) ?_; rw [Bool.eq_iff_iff]; simp only [decide_eq_true_eq, true_iff, false_iff, Bool.false_eq_true]; first | omega | grind)
 ·simp only [Pt.right, Bool.cond_eq_ite, decide_eq_true_eq]
  repeat' split
  all_goals first | (exfalso; omega) | (refine congrArg (fun b => kk (V.bool b) []) ?_; rw [Bool.eq_iff_iff]; simp only [decide_eq_true_eq, true_iff, false_iff, Bool.false_eq_true]; first | omega | grind)
theorem f90_run {R : Type} (kk : V → List Ob → Option R) (s : List UInt8) (h : 8 ≤ s.length) :
  vrun (E 8) f90cuts 0 100000 (vend (E 8) 0 (fb Tryd.f90).1.results.toList false kk) 1 [.code (fb Tryd.f90).2] (start [.str s] []) = kk (.int .u64 (word8 s)) [] := by
 rw [vrun_succ, f90_go]
 match s, h with
 | a :: b :: c :: d :: e :: f :: g :: h :: r, _ => rfl
theorem f50_run {R : Type} (kk : V → List Ob → Option R) (x y : Int) :
  vrun (E 8) f50cuts 0 100000 (vend (E 8) 0 (fb Tryd.f50).1.results.toList false kk) 1 [.code (fb Tryd.f50).2] (start [enc false rI x, enc false rI y] []) = kk (.int .i64 (sgn x y)) [] := by
 rw [vrun_succ]
 refine (f50_go _ kk x y).trans ?_
 simp only [decide_true, Bool.not_true, cond_false, bif_ki]
 refine congrArg (fun b => kk (V.int .i64 b) []) ?_
 simp only [sgn, Bool.cond_eq_ite, decide_eq_true_eq]
noncomputable def f50e : Entry Tryd.prog gls := .two 50 false rI false rI (by intro h; cases h <;> rfl) (by intro h; cases h <;> rfl) (fun (x : Int) (y : Int) => (true, .int .i64 (sgn x y))) fun x y h => by
 have _ := h
 have hn := f50_run (fun v os => some (v, os)) x y
 exact contract_run (fn := (fb Tryd.f50).1) (c := (fb Tryd.f50).2) mixed (ready 8) (glE 8) Tryd.func50 (by kernel_rfl) rfl rfl (by kernel_rfl) hn
noncomputable def f29e : Entry Tryd.prog gls := .one 29 true rVal (by intro h; cases h <;> rfl) (fun (x : Vl) => (true, .bool (Vl.right x))) fun x h => by
 have _ := h
 have hn := f29_run (fun v os => some (v, os)) x
 exact contract_run (fn := (fb Tryd.f29).1) (c := (fb Tryd.f29).2) mixed (ready 8) (glE 8) Tryd.func29 (by kernel_rfl) rfl rfl (by kernel_rfl) hn
noncomputable def f53e : Entry Tryd.prog gls := .one 53 true rVal (by intro h; cases h <;> rfl) (fun (x : Vl) => (true, .bool (Vl.right x))) fun x h => by
 have _ := h
 have hn := f53_run (fun v os => some (v, os)) x
 exact contract_run (fn := (fb Tryd.f53).1) (c := (fb Tryd.f53).2) mixed (ready 8) (glE 8) Tryd.func53 (by kernel_rfl) rfl rfl (by kernel_rfl) hn
noncomputable def f34e : Entry Tryd.prog gls := .one 34 true rPitch (by intro h; cases h <;> rfl) (fun (x : Pt) => (true, .bool (Pt.right x))) fun x h => by
 have _ := h
 have hn := f34_run (fun v os => some (v, os)) x
 exact contract_run (fn := (fb Tryd.f34).1) (c := (fb Tryd.f34).2) mixed (ready 8) (glE 8) Tryd.func34 (by kernel_rfl) rfl rfl (by kernel_rfl) hn
noncomputable def f56e : Entry Tryd.prog gls := .one 56 true rPitch (by intro h; cases h <;> rfl) (fun (x : Pt) => (true, .bool (Pt.right x))) fun x h => by
 have _ := h
 have hn := f56_run (fun v os => some (v, os)) x
 exact contract_run (fn := (fb Tryd.f56).1) (c := (fb Tryd.f56).2) mixed (ready 8) (glE 8) Tryd.func56 (by kernel_rfl) rfl rfl (by kernel_rfl) hn
noncomputable def f90e : Entry Tryd.prog gls := .one 90 false rS (by intro h; cases h <;> rfl) (fun (x : List UInt8) => (decide (8 ≤ x.length), .int .u64 (word8 x))) fun x h => by
 have _ := h
 have hn := f90_run (fun v os => some (v, os)) x (of_decide_eq_true h)
 exact contract_run (fn := (fb Tryd.f90).1) (c := (fb Tryd.f90).2) mixed (ready 8) (glE 8) Tryd.func90 (by kernel_rfl) rfl rfl (by kernel_rfl) hn
noncomputable def es4 : List (Entry Tryd.prog gls) := [f50e, f29e, f53e, f34e, f56e, f90e] ++ []
noncomputable def E4 (n : Nat) : Env := interp fns (look tys) gls mvs (tabOf es4) 100000 n
theorem ready4 (n : Nat) : Ready Tryd.prog (E4 n) := ready_of mixed fnsAll tysOk rfsOk n
theorem glE4 (n : Nat) : (E4 n).gl = gls := by cases n <;> rfl
end Vm.S6b
open Go Go.Proofs Go.IntKind
namespace Vm.S6b
variable {R : Type} (J : List Item → St → Option R) (kk : V → List Ob → Option R)
noncomputable abbrev f52cuts : Cuts := fun _ => none
theorem f52_go (p : Int × Int × Int) :
 vseg (E4 8) f52cuts 0 J (vend (E4 8) 0 (fb Tryd.f52).1.results.toList false kk) 100000 true [.code (fb Tryd.f52).2] (start ([enc true rPitch p]) ([])) =
 kk (V.int i64 (i64.wrap (i64.wrap ((7 : Int) * p.snd.snd) + p.fst))) ([]) := by kernel_rfl
noncomputable abbrev f51cuts : Cuts := fun _ => none
theorem f51_go (p : Int × Int × Int) :
 vseg (E4 8) f51cuts 0 J (vend (E4 8) 0 (fb Tryd.f51).1.results.toList false kk) 100000 true [.code (fb Tryd.f51).2] (start ([enc true rPitch p]) ([])) =
 (match idx glHalf p.fst with
 | some y1 => kk (V.int i64 (i64.wrap (i64.wrap (i64.wrap ((12 : Int) * i64.wrap (p.snd.snd + (1 : Int))) + y1) + p.snd.fst))) ([])
 | none => none) := by kernel_rfl
noncomputable abbrev f102cuts : Cuts := fun _ => none
theorem f102_go (p : Int × Int × Int) :
 vseg (E4 8) f102cuts 0 J (vend (E4 8) 0 (fb Tryd.f102).1.results.toList false kk) 100000 true [.code (fb Tryd.f102).2] (start ([enc true rPitch p]) ([])) =
 (bif !Pt.right p then
 kk (V.tuple [V.int i64 (0 : Int), V.int i64 (20 : Int)]) ([])
 else kk (V.tuple [V.int i64 (i64.wrap (i64.wrap ((7 : Int) * p.snd.snd) + p.fst)), V.int i64 (0 : Int)]) ([])) := by kernel_rfl
noncomputable abbrev f103cuts : Cuts := fun _ => none
theorem f103_go (p : Int × Int × Int) :
 vseg (E4 8) f103cuts 0 J (vend (E4 8) 0 (fb Tryd.f103).1.results.toList false kk) 100000 true [.code (fb Tryd.f103).2] (start ([enc true rPitch p]) ([])) =
 (bif !Pt.right p then
 kk (V.tuple [V.int i64 (0 : Int), V.int i64 (20 : Int)]) ([])
 else (bif decide (p.fst < (3 : Int)) then
 kk (V.tuple [V.int i64 (i64.wrap (i64.wrap (i64.wrap ((12 : Int) * i64.wrap (p.snd.snd + (1 : Int))) + i64.wrap ((2 : Int) * p.fst)) + p.snd.fst)), V.int i64 (0 : Int)]) ([])
 else kk (V.tuple [V.int i64 (i64.wrap (i64.wrap (i64.wrap ((12 : Int) * i64.wrap (p.snd.snd + (1 : Int))) + i64.wrap (i64.wrap ((2 : Int) * p.fst) - (1 : Int))) + p.snd.fst)), V.int i64 (0 : Int)]) ([]))) := by kernel_rfl
end Vm.S6b
open Go Go.Proofs
namespace Vm.S6b
theorem f52_run {R : Type} (kk : V → List Ob → Option R) (p : Pt) (h : Pt.mild p = true) :
  vrun (E4 8) f52cuts 0 100000 (vend (E4 8) 0 (fb Tryd.f52).1.results.toList false kk) 1 [.code (fb Tryd.f52).2] (start [enc true rPitch p] []) = kk (.int .i64 (Pt.line p)) [] := by
 rw [vrun_succ, f52_go]
 obtain ⟨a, b, c⟩ := p
 simp only [Pt.mild, decide_eq_true_eq] at h
 rw [w64 (n := 7 * c) (by omega) (by omega), w64 (n := 7 * c + a) (by omega) (by omega)]
 rfl
theorem f51_run {R : Type} (kk : V → List Ob → Option R) (p : Pt) (h : Pt.mild p = true) :
  vrun (E4 8) f51cuts 0 100000 (vend (E4 8) 0 (fb Tryd.f51).1.results.toList false kk) 1 [.code (fb Tryd.f51).2] (start [enc true rPitch p] []) = kk (.int .i64 (Pt.num p)) [] := by
 rw [vrun_succ, f51_go]
 obtain ⟨a, b, c⟩ := p
 simp only [Pt.mild, decide_eq_true_eq] at h
 have hh := Pt.half_le h.1 h.2.1
 rw [show idx glHalf a = some (Pt.half a) from glHalf_idx h.1 h.2.1]
 dsimp only
 rw [w64 (n := c + 1) (by omega) (by omega), w64 (n := 12 * (c + 1)) (by omega) (by omega), w64 (n := 12 * (c + 1) + Pt.half a) (by omega) (by omega), w64 (n := 12 * (c + 1) + Pt.half a + b) (by omega) (by omega)]
 rfl
theorem f102_run {R : Type} (kk : V → List Ob → Option R) (p : Pt) :
  vrun (E4 8) f102cuts 0 100000 (vend (E4 8) 0 (fb Tryd.f102).1.results.toList false kk) 1 [.code (fb Tryd.f102).2] (start [enc true rPitch p] []) = kk (.tuple [.int .i64 (bif Pt.right p then Pt.line p else 0), .int .i64 (bif Pt.right p then 0 else 20)]) [] := by
 rw [vrun_succ, f102_go]
 cases hr : Pt.right p with
 | false => rfl
 | true =>
   have h := Pt.mild_of hr
   obtain ⟨a, b, c⟩ := p
   simp only [Pt.mild, decide_eq_true_eq] at h
   rw [w64 (n := 7 * c) (by omega) (by omega), w64 (n := 7 * c + a) (by omega) (by omega)]
   rfl
theorem f103_run {R : Type} (kk : V → List Ob → Option R) (p : Pt) :
  vrun (E4 8) f103cuts 0 100000 (vend (E4 8) 0 (fb Tryd.f103).1.results.toList false kk) 1 [.code (fb Tryd.f103).2] (start [enc true rPitch p] []) = kk (.tuple [.int .i64 (bif Pt.right p then Pt.num p else 0), .int .i64 (bif Pt.right p then 0 else 20)]) [] := by
 rw [vrun_succ, f103_go]
 cases hr : Pt.right p with
 | false => rfl
 | true =>
   have h := Pt.mild_of hr
   obtain ⟨a, b, c⟩ := p
   simp only [Pt.mild, decide_eq_true_eq] at h
   dsimp only
   rw [w64 (n := c + 1) (by omega) (by omega), w64 (n := 12 * (c + 1)) (by omega) (by omega), w64 (n := 2 * a) (by omega) (by omega), w64 (n := 2 * a - 1) (by omega) (by omega), w64 (n := 12 * (c + 1) + 2 * a) (by omega) (by omega), w64 (n := 12 * (c + 1) + (2 * a - 1)) (by omega) (by omega), w64 (n := 12 * (c + 1) + 2 * a + b) (by omega) (by omega), w64 (n := 12 * (c + 1) + (2 * a - 1) + b) (by omega) (by omega)]
   by_cases h3 : a < 3
   ·rw [bif_neg (by rfl), bif_pos (by simpa using h3)]
    simp only [cond_true, Pt.num, Pt.half, if_pos h3]
   ·rw [bif_neg (by rfl), bif_neg (by simpa using h3)]
    simp only [cond_true, Pt.num, Pt.half, if_neg h3]
noncomputable def f52e : Entry Tryd.prog gls := .one 52 true rPitch (by intro h; cases h <;> rfl) (fun (x : Pt) => (Pt.mild x, .int .i64 (Pt.line x))) fun x h => by
 have _ := h
 have hn := f52_run (fun v os => some (v, os)) x h
 exact contract_run (fn := (fb Tryd.f52).1) (c := (fb Tryd.f52).2) mixed (ready4 8) (glE4 8) Tryd.func52 (by kernel_rfl) rfl rfl (by kernel_rfl) hn
noncomputable def f51e : Entry Tryd.prog gls := .one 51 true rPitch (by intro h; cases h <;> rfl) (fun (x : Pt) => (Pt.mild x, .int .i64 (Pt.num x))) fun x h => by
 have _ := h
 have hn := f51_run (fun v os => some (v, os)) x h
 exact contract_run (fn := (fb Tryd.f51).1) (c := (fb Tryd.f51).2) mixed (ready4 8) (glE4 8) Tryd.func51 (by kernel_rfl) rfl rfl (by kernel_rfl) hn
noncomputable def f102e : Entry Tryd.prog gls := .one 102 true rPitch (by intro h; cases h <;> rfl) (fun (x : Pt) => (true, .tuple [.int .i64 (bif Pt.right x then Pt.line x else 0), .int .i64 (bif Pt.right x then 0 else 20)])) fun x h => by
 have _ := h
 have hn := f102_run (fun v os => some (v, os)) x
 exact contract_run (fn := (fb Tryd.f102).1) (c := (fb Tryd.f102).2) mixed (ready4 8) (glE4 8) Tryd.func102 (by kernel_rfl) rfl rfl (by kernel_rfl) hn
noncomputable def f103e : Entry Tryd.prog gls := .one 103 true rPitch (by intro h; cases h <;> rfl) (fun (x : Pt) => (true, .tuple [.int .i64 (bif Pt.right x then Pt.num x else 0), .int .i64 (bif Pt.right x then 0 else 20)])) fun x h => by
 have _ := h
 have hn := f103_run (fun v os => some (v, os)) x
 exact contract_run (fn := (fb Tryd.f103).1) (c := (fb Tryd.f103).2) mixed (ready4 8) (glE4 8) Tryd.func103 (by kernel_rfl) rfl rfl (by kernel_rfl) hn
noncomputable def es5 : List (Entry Tryd.prog gls) := [f52e, f51e, f102e, f103e] ++ es4
noncomputable def E5 (n : Nat) : Env := interp fns (look tys) gls mvs (tabOf es5) 100000 n
theorem ready5 (n : Nat) : Ready Tryd.prog (E5 n) := ready_of mixed fnsAll tysOk rfsOk n
theorem glE5 (n : Nat) : (E5 n).gl = gls := by cases n <;> rfl
end Vm.S6b
open Go Go.Proofs Go.IntKind
namespace Vm.S6b
variable {R : Type} (J : List Item → St → Option R) (kk : V → List Ob → Option R)
noncomputable abbrev f25cuts : Cuts := fun _ => none
theorem f25_go (p q : Int × Int × Int) :
 vseg (E5 8) f25cuts 0 J (vend (E5 8) 0 (fb Tryd.f25).1.results.toList false kk) 100000 true [.code (fb Tryd.f25).2] (start ([enc true rPitch p, enc true rPitch q]) ([])) =
 (bif !Pt.right p then
 kk (V.int i64 (0 : Int)) ([])
 else (bif !Pt.right q then
 kk (V.int i64 (0 : Int)) ([])
 else (bif Pt.mild p then
 (bif Pt.mild q then
 (bif Pt.mild p then
 (bif Pt.mild q then
 (bif !decide (sgn (Pt.num p) (Pt.num q) = (0 : Int)) then
 kk (V.int i64 (sgn (Pt.num p) (Pt.num q))) ([])
 else (bif !decide (sgn (Pt.line p) (Pt.line q) = (0 : Int)) then
 kk (V.int i64 (sgn (Pt.line p) (Pt.line q))) ([])
 else kk (V.int i64 (0 : Int)) ([])))
 else none)
 else none)
 else none)
 else none))) := by kernel_rfl
noncomputable abbrev f57cuts : Cuts := fun _ => none
theorem f57_go (p q : Int × Int × Int) :
 vseg (E5 8) f57cuts 0 J (vend (E5 8) 0 (fb Tryd.f57).1.results.toList false kk) 100000 true [.code (fb Tryd.f57).2] (start ([enc true rPitch p, enc true rPitch q]) ([])) =
 (bif !decide ((bif Pt.right p then (0 : Int) else (20 : Int)) = (0 : Int)) then
 kk (V.int i64 (0 : Int)) ([])
 else (bif !decide ((bif Pt.right q then (0 : Int) else (20 : Int)) = (0 : Int)) then
 kk (V.int i64 (0 : Int)) ([])
 else (bif decide ((0 : Int) < i64.wrap ((bif Pt.right q then Pt.num q else (0 : Int)) - bif Pt.right p then Pt.num p else (0 : Int))) then
 kk (V.int i64 ((-1 : Int))) ([])
 else (bif decide (i64.wrap ((bif Pt.right q then Pt.num q else (0 : Int)) - bif Pt.right p then Pt.num p else (0 : Int)) = (0 : Int)) then
 (bif decide ((0 : Int) < i64.wrap ((bif Pt.right q then Pt.line q else (0 : Int)) - bif Pt.right p then Pt.line p else (0 : Int))) then
 kk (V.int i64 ((-1 : Int))) ([])
 else (bif decide (i64.wrap ((bif Pt.right q then Pt.num q else (0 : Int)) - bif Pt.right p then Pt.num p else (0 : Int)) < (0 : Int)) then
 kk (V.int i64 (1 : Int)) ([])
 else (bif decide (i64.wrap ((bif Pt.right q then Pt.line q else (0 : Int)) - bif Pt.right p then Pt.line p else (0 : Int)) < (0 : Int)) then
 kk (V.int i64 (1 : Int)) ([])
 else kk (V.int i64 (0 : Int)) ([]))))
 else (bif decide (i64.wrap ((bif Pt.right q then Pt.num q else (0 : Int)) - bif Pt.right p then Pt.num p else (0 : Int)) < (0 : Int)) then
 kk (V.int i64 (1 : Int)) ([])
 else (bif decide (i64.wrap ((bif Pt.right q then Pt.line q else (0 : Int)) - bif Pt.right p then Pt.line p else (0 : Int)) < (0 : Int)) then
 kk (V.int i64 (1 : Int)) ([])
 else kk (V.int i64 (0 : Int)) ([]))))))) := by kernel_rfl
noncomputable abbrev f87cuts : Cuts := look [(14, [0, 3, 4, 5]), (20, [0, 3, 4, 5]), (24, [0, 4, 7])]
noncomputable abbrev f87t24 : List Item := itemsAt (fb Tryd.f87).2 24
noncomputable abbrev f87t20 : List Item := itemsAt (fb Tryd.f87).2 20
noncomputable abbrev f87t14 : List Item := itemsAt (fb Tryd.f87).2 14
def f87s0 (s : List UInt8) (n2 n3 n4 : Int) : St := { fr := [(0, V.str s), (3, V.int i64 n2), (4, V.int i64 n3), (5, V.int i64 n4)], hp := [], nx := 0 }
def f87s1 (s : List UInt8) (n5 n6 n7 : Int) : St := { fr := [(0, V.str s), (3, V.int i64 n5), (4, V.int i64 n6), (5, V.int i64 n7)], hp := [], nx := 0 }
def f87s2 (s : List UInt8) (n6 n9 : Int) : St := { fr := [(0, V.str s), (4, V.int i64 n6), (7, V.int i64 n9)], hp := [], nx := 0 }
theorem f87_go (s : List UInt8) :
 vseg (E5 8) f87cuts 0 J (vend (E5 8) 0 (fb Tryd.f87).1.results.toList false kk) 100000 true [.code (fb Tryd.f87).2] (start ([V.str s]) ([])) =
 (bif decide ((↑s.length : Int) = (0 : Int)) then
 kk (V.int i64 (0 : Int)) ([])
 else (match idx s (0 : Int) with
 | some y1 => (bif decide (i64.wrap (↑y1.toNat : Int) < (128 : Int)) then
 kk (V.int i64 (1 : Int)) ([])
 else (bif decide ((194 : Int) ≤ i64.wrap (↑y1.toNat : Int)) then
 (bif decide (i64.wrap (↑y1.toNat : Int) ≤ (223 : Int)) then
 (bif decide ((224 : Int) ≤ i64.wrap (↑y1.toNat : Int)) then
 (bif decide (i64.wrap (↑y1.toNat : Int) ≤ (239 : Int)) then
 (bif decide ((240 : Int) ≤ i64.wrap (↑y1.toNat : Int)) then
 (bif decide (i64.wrap (↑y1.toNat : Int) ≤ (244 : Int)) then
 J f87t14 (f87s0 s (i64.wrap (↑y1.toNat : Int)) (4 : Int) (128 : Int))
 else J f87t14 (f87s0 s (i64.wrap (↑y1.toNat : Int)) (3 : Int) (128 : Int)))
 else J f87t14 (f87s0 s (i64.wrap (↑y1.toNat : Int)) (3 : Int) (128 : Int)))
 else (bif decide ((240 : Int) ≤ i64.wrap (↑y1.toNat : Int)) then
 (bif decide (i64.wrap (↑y1.toNat : Int) ≤ (244 : Int)) then
 J f87t14 (f87s0 s (i64.wrap (↑y1.toNat : Int)) (4 : Int) (128 : Int))
 else J f87t14 (f87s0 s (i64.wrap (↑y1.toNat : Int)) (2 : Int) (128 : Int)))
 else J f87t14 (f87s0 s (i64.wrap (↑y1.toNat : Int)) (2 : Int) (128 : Int))))
 else (bif decide ((240 : Int) ≤ i64.wrap (↑y1.toNat : Int)) then
 (bif decide (i64.wrap (↑y1.toNat : Int) ≤ (244 : Int)) then
 J f87t14 (f87s0 s (i64.wrap (↑y1.toNat : Int)) (4 : Int) (128 : Int))
 else J f87t14 (f87s0 s (i64.wrap (↑y1.toNat : Int)) (2 : Int) (128 : Int)))
 else J f87t14 (f87s0 s (i64.wrap (↑y1.toNat : Int)) (2 : Int) (128 : Int))))
 else (bif decide ((224 : Int) ≤ i64.wrap (↑y1.toNat : Int)) then
 (bif decide (i64.wrap (↑y1.toNat : Int) ≤ (239 : Int)) then
 (bif decide ((240 : Int) ≤ i64.wrap (↑y1.toNat : Int)) then
 (bif decide (i64.wrap (↑y1.toNat : Int) ≤ (244 : Int)) then
 J f87t14 (f87s0 s (i64.wrap (↑y1.toNat : Int)) (4 : Int) (128 : Int))
 else J f87t14 (f87s0 s (i64.wrap (↑y1.toNat : Int)) (3 : Int) (128 : Int)))
 else J f87t14 (f87s0 s (i64.wrap (↑y1.toNat : Int)) (3 : Int) (128 : Int)))
 else (bif decide ((240 : Int) ≤ i64.wrap (↑y1.toNat : Int)) then
 (bif decide (i64.wrap (↑y1.toNat : Int) ≤ (244 : Int)) then
 J f87t14 (f87s0 s (i64.wrap (↑y1.toNat : Int)) (4 : Int) (128 : Int))
 else J f87t14 (f87s0 s (i64.wrap (↑y1.toNat : Int)) (0 : Int) (128 : Int)))
 else J f87t14 (f87s0 s (i64.wrap (↑y1.toNat : Int)) (0 : Int) (128 : Int))))
 else (bif decide ((240 : Int) ≤ i64.wrap (↑y1.toNat : Int)) then
 (bif decide (i64.wrap (↑y1.toNat : Int) ≤ (244 : Int)) then
 J f87t14 (f87s0 s (i64.wrap (↑y1.toNat : Int)) (4 : Int) (128 : Int))
 else J f87t14 (f87s0 s (i64.wrap (↑y1.toNat : Int)) (0 : Int) (128 : Int)))
 else J f87t14 (f87s0 s (i64.wrap (↑y1.toNat : Int)) (0 : Int) (128 : Int)))))
 else (bif decide ((224 : Int) ≤ i64.wrap (↑y1.toNat : Int)) then
 (bif decide (i64.wrap (↑y1.toNat : Int) ≤ (239 : Int)) then
 (bif decide ((240 : Int) ≤ i64.wrap (↑y1.toNat : Int)) then
 (bif decide (i64.wrap (↑y1.toNat : Int) ≤ (244 : Int)) then
 J f87t14 (f87s0 s (i64.wrap (↑y1.toNat : Int)) (4 : Int) (128 : Int))
 else J f87t14 (f87s0 s (i64.wrap (↑y1.toNat : Int)) (3 : Int) (128 : Int)))
 else J f87t14 (f87s0 s (i64.wrap (↑y1.toNat : Int)) (3 : Int) (128 : Int)))
 else (bif decide ((240 : Int) ≤ i64.wrap (↑y1.toNat : Int)) then
 (bif decide (i64.wrap (↑y1.toNat : Int) ≤ (244 : Int)) then
 J f87t14 (f87s0 s (i64.wrap (↑y1.toNat : Int)) (4 : Int) (128 : Int))
 else J f87t14 (f87s0 s (i64.wrap (↑y1.toNat : Int)) (0 : Int) (128 : Int)))
 else J f87t14 (f87s0 s (i64.wrap (↑y1.toNat : Int)) (0 : Int) (128 : Int))))
 else (bif decide ((240 : Int) ≤ i64.wrap (↑y1.toNat : Int)) then
 (bif decide (i64.wrap (↑y1.toNat : Int) ≤ (244 : Int)) then
 J f87t14 (f87s0 s (i64.wrap (↑y1.toNat : Int)) (4 : Int) (128 : Int))
 else J f87t14 (f87s0 s (i64.wrap (↑y1.toNat : Int)) (0 : Int) (128 : Int)))
 else J f87t14 (f87s0 s (i64.wrap (↑y1.toNat : Int)) (0 : Int) (128 : Int))))))
 | none => none)) := by kernel_rfl
theorem f87_0 (s : List UInt8) (n2 n3 n4 : Int) :
 vseg (E5 8) f87cuts 0 J (vend (E5 8) 0 (fb Tryd.f87).1.results.toList false kk) 100000 true f87t14 (f87s0 s n2 n3 n4) =
 (bif decide (n3 = (0 : Int)) then
 kk (V.int i64 (0 : Int)) ([])
 else (bif decide ((↑s.length : Int) < n3) then
 kk (V.int i64 (0 : Int)) ([])
 else (bif decide (n2 = (224 : Int)) then
 (bif decide (n2 = (240 : Int)) then
 J f87t20 (f87s1 s n2 n3 (144 : Int))
 else J f87t20 (f87s1 s n2 n3 (160 : Int)))
 else (bif decide (n2 = (240 : Int)) then
 J f87t20 (f87s1 s n2 n3 (144 : Int))
 else J f87t20 (f87s1 s n2 n3 n4))))) := by kernel_rfl
theorem f87_1 (s : List UInt8) (n5 n6 n7 : Int) :
 vseg (E5 8) f87cuts 0 J (vend (E5 8) 0 (fb Tryd.f87).1.results.toList false kk) 100000 true f87t20 (f87s1 s n5 n6 n7) =
 (match idx s (1 : Int) with
 | some y8 => (bif decide (i64.wrap (↑y8.toNat : Int) < n7) then
 kk (V.int i64 (0 : Int)) ([])
 else (bif decide ((191 : Int) < i64.wrap (↑y8.toNat : Int)) then
 kk (V.int i64 (0 : Int)) ([])
 else (bif decide (n5 = (237 : Int)) then
 (bif decide ((159 : Int) < i64.wrap (↑y8.toNat : Int)) then
 kk (V.int i64 (0 : Int)) ([])
 else (bif decide (n5 = (244 : Int)) then
 (bif decide ((143 : Int) < i64.wrap (↑y8.toNat : Int)) then
 kk (V.int i64 (0 : Int)) ([])
 else J f87t24 (f87s2 s n6 (2 : Int)))
 else J f87t24 (f87s2 s n6 (2 : Int))))
 else (bif decide (n5 = (244 : Int)) then
 (bif decide ((143 : Int) < i64.wrap (↑y8.toNat : Int)) then
 kk (V.int i64 (0 : Int)) ([])
 else J f87t24 (f87s2 s n6 (2 : Int)))
 else J f87t24 (f87s2 s n6 (2 : Int))))))
 | none => none) := by kernel_rfl
theorem f87_2 (s : List UInt8) (n6 n9 : Int) :
 vseg (E5 8) f87cuts 0 J (vend (E5 8) 0 (fb Tryd.f87).1.results.toList false kk) 100000 true f87t24 (f87s2 s n6 n9) =
 (bif decide (n9 < n6) then
 (match idx s n9 with
 | some y10 => (bif decide ((↑y10.toNat : Int) < (128 : Int)) then
 kk (V.int i64 (0 : Int)) ([])
 else (match idx s n9 with
 | some y11 => (bif decide ((191 : Int) < (↑y11.toNat : Int)) then
 kk (V.int i64 (0 : Int)) ([])
 else J f87t24 (f87s2 s n6 (i64.wrap (n9 + (1 : Int)))))
 | none => none))
 | none => none)
 else kk (V.int i64 n6) ([])) := by kernel_rfl
noncomputable abbrev f60cuts : Cuts := look [(1, [0]), (5, [0]), (7, [0]), (9, [0]), (11, [0, 3]), (14, [0, 5, 6])]
noncomputable abbrev f60t9 : List Item := itemsAt (fb Tryd.f60).2 9
noncomputable abbrev f60t14 : List Item := itemsAt (fb Tryd.f60).2 14
noncomputable abbrev f60t7 : List Item := itemsAt (fb Tryd.f60).2 7
noncomputable abbrev f60t11 : List Item := itemsAt (fb Tryd.f60).2 11
noncomputable abbrev f60t5 : List Item := itemsAt (fb Tryd.f60).2 5
noncomputable abbrev f60t1 : List Item := itemsAt (fb Tryd.f60).2 1
def f60s0 (s1 : List UInt8) : St := { fr := [(0, V.str s1)], hp := [], nx := 0 }
def f60s1 (s3 : List UInt8) : St := { fr := [(0, V.str s3)], hp := [], nx := 0 }
def f60s2 (s4 : List UInt8) (n5 : Int) : St := { fr := [(0, V.str s4), (3, V.int u8 n5)], hp := [], nx := 0 }
def f60s3 (s6 : List UInt8) : St := { fr := [(0, V.str s6)], hp := [], nx := 0 }
def f60s4 (s9 : List UInt8) (n10 : Int) (x11 : Int × Int) : St := { fr := [(0, V.str s9), (5, V.int i64 n10), (6, V.ref 0 0 0 0)], hp := [(0, Ob.var [V.int u8 x11.fst, V.int u8 x11.snd])], nx := 1 }
def f60s5 (s12 : List UInt8) : St := { fr := [(0, V.str s12)], hp := [], nx := 0 }
theorem f60_go (s : List UInt8) :
 vseg (E5 8) f60cuts 0 J (vend (E5 8) 0 (fb Tryd.f60).1.results.toList false kk) 100000 true [.code (fb Tryd.f60).2] (start ([V.str s]) ([])) =
 J f60t1 (f60s0 s) := by kernel_rfl
theorem f60_0 (s1 : List UInt8) :
 vseg (E5 8) f60cuts 0 J (vend (E5 8) 0 (fb Tryd.f60).1.results.toList false kk) 100000 true f60t1 (f60s0 s1) =
 (bif decide ((0 : Int) < (↑s1.length : Int)) then
 (match idx s1 (0 : Int) with
 | some y2 => (bif decide ((↑y2.toNat : Int) < (128 : Int)) then
 (bif decide ((0 : Int) ≤ (1 : Int) ∧ (1 : Int) ≤ (↑s1.length : Int) ∧ (↑s1.length : Int) ≤ (↑s1.length : Int) ∧ (↑s1.length : Int) ≤ (↑s1.length : Int)) then
 J f60t5 (f60s1 (List.take ((↑s1.length : Int).toNat - Int.toNat (1 : Int)) (List.drop (Int.toNat (1 : Int)) s1)))
 else none)
 else J f60t11 (f60s2 s1 ((↑y2.toNat : Int))))
 | none => none)
 else kk (V.bool true) ([])) := by kernel_rfl
theorem f60_1 (s3 : List UInt8) :
 vseg (E5 8) f60cuts 0 J (vend (E5 8) 0 (fb Tryd.f60).1.results.toList false kk) 100000 true f60t5 (f60s1 s3) =
 (bif decide ((8 : Int) < (↑s3.length : Int)) then
 (bif decide ((8 : Nat) ≤ s3.length) then
 (bif decide (bitop BinOp.and u64 (word8 s3) (9259542123273814144 : Int) = (0 : Int)) then
 (bif decide ((0 : Int) ≤ (8 : Int) ∧ (8 : Int) ≤ (↑s3.length : Int) ∧ (↑s3.length : Int) ≤ (↑s3.length : Int) ∧ (↑s3.length : Int) ≤ (↑s3.length : Int)) then
 J f60t7 (f60s3 (List.take ((↑s3.length : Int).toNat - Int.toNat (8 : Int)) (List.drop (Int.toNat (8 : Int)) s3)))
 else none)
 else J f60t1 (f60s0 s3))
 else none)
 else J f60t1 (f60s0 s3)) := by kernel_rfl
theorem f60_2 (s4 : List UInt8) (n5 : Int) :
 vseg (E5 8) f60cuts 0 J (vend (E5 8) 0 (fb Tryd.f60).1.results.toList false kk) 100000 true f60t11 (f60s2 s4 n5) =
 (match idx utf8First n5 with
 | some y7 => (match idx utf8Accept (y7.fdiv ((2 : Int) ^ min (Int.toNat (4 : Int)) u8.bits)) with
 | some y8 => J f60t14 (f60s4 s4 (i64.wrap (bitop BinOp.and u8 y7 (7 : Int))) y8)
 | none => none)
 | none => none) := by kernel_rfl
theorem f60_3 (s6 : List UInt8) :
 vseg (E5 8) f60cuts 0 J (vend (E5 8) 0 (fb Tryd.f60).1.results.toList false kk) 100000 true f60t7 (f60s3 s6) =
 (bif decide ((16 : Int) < (↑s6.length : Int)) then
 (bif decide ((8 : Nat) ≤ s6.length) then
 (bif decide ((0 : Int) ≤ (8 : Int) ∧ (8 : Int) ≤ (↑s6.length : Int) ∧ (↑s6.length : Int) ≤ (↑s6.length : Int) ∧ (↑s6.length : Int) ≤ (↑s6.length : Int)) then
 (bif decide ((8 : Nat) ≤ (List.take ((↑s6.length : Int).toNat - Int.toNat (8 : Int)) (List.drop (Int.toNat (8 : Int)) s6)).length) then
 (bif decide (bitop BinOp.and u64 (bitop BinOp.or u64 (word8 s6) (word8 (List.take ((↑s6.length : Int).toNat - Int.toNat (8 : Int)) (List.drop (Int.toNat (8 : Int)) s6)))) (9259542123273814144 : Int) = (0 : Int)) then
 (bif decide ((0 : Int) ≤ (16 : Int) ∧ (16 : Int) ≤ (↑s6.length : Int) ∧ (↑s6.length : Int) ≤ (↑s6.length : Int) ∧ (↑s6.length : Int) ≤ (↑s6.length : Int)) then
 J f60t9 (f60s5 (List.take ((↑s6.length : Int).toNat - Int.toNat (16 : Int)) (List.drop (Int.toNat (16 : Int)) s6)))
 else none)
 else J f60t1 (f60s0 s6))
 else none)
 else none)
 else none)
 else J f60t1 (f60s0 s6)) := by kernel_rfl
theorem f60_4 (s9 : List UInt8) (n10 : Int) (x11 : Int × Int) :
 vseg (E5 8) f60cuts 0 J (vend (E5 8) 0 (fb Tryd.f60).1.results.toList false kk) 100000 true f60t14 (f60s4 s9 n10 x11) =
 (bif decide (n10 = (2 : Int)) then
 (bif decide ((↑s9.length : Int) < (2 : Int)) then
 kk (V.bool false) ([])
 else (match idx s9 (1 : Int) with
 | some y13 => (bif decide ((↑y13.toNat : Int) < x11.fst) then
 kk (V.bool false) ([])
 else (match idx s9 (1 : Int) with
 | some y14 => (bif decide (x11.snd < (↑y14.toNat : Int)) then
 kk (V.bool false) ([])
 else (bif decide ((0 : Int) ≤ (2 : Int) ∧ (2 : Int) ≤ (↑s9.length : Int) ∧ (↑s9.length : Int) ≤ (↑s9.length : Int) ∧ (↑s9.length : Int) ≤ (↑s9.length : Int)) then
 J f60t1 (f60s0 (List.take ((↑s9.length : Int).toNat - Int.toNat (2 : Int)) (List.drop (Int.toNat (2 : Int)) s9)))
 else none))
 | none => none))
 | none => none))
 else (bif decide (n10 = (3 : Int)) then
 (bif decide ((↑s9.length : Int) < (3 : Int)) then
 kk (V.bool false) ([])
 else (match idx s9 (1 : Int) with
 | some y15 => (bif decide ((↑y15.toNat : Int) < x11.fst) then
 kk (V.bool false) ([])
 else (match idx s9 (1 : Int) with
 | some y16 => (bif decide (x11.snd < (↑y16.toNat : Int)) then
 kk (V.bool false) ([])
 else (match idx s9 (2 : Int) with
 | some y17 => (bif decide ((↑y17.toNat : Int) < (128 : Int)) then
 kk (V.bool false) ([])
 else (match idx s9 (2 : Int) with
 | some y18 => (bif decide ((191 : Int) < (↑y18.toNat : Int)) then
 kk (V.bool false) ([])
 else (bif decide ((0 : Int) ≤ (3 : Int) ∧ (3 : Int) ≤ (↑s9.length : Int) ∧ (↑s9.length : Int) ≤ (↑s9.length : Int) ∧ (↑s9.length : Int) ≤ (↑s9.length : Int)) then
 J f60t1 (f60s0 (List.take ((↑s9.length : Int).toNat - Int.toNat (3 : Int)) (List.drop (Int.toNat (3 : Int)) s9)))
 else none))
 | none => none))
 | none => none))
 | none => none))
 | none => none))
 else (bif decide (n10 = (4 : Int)) then
 (bif decide ((↑s9.length : Int) < (4 : Int)) then
 kk (V.bool false) ([])
 else (match idx s9 (1 : Int) with
 | some y19 => (bif decide ((↑y19.toNat : Int) < x11.fst) then
 kk (V.bool false) ([])
 else (match idx s9 (1 : Int) with
 | some y20 => (bif decide (x11.snd < (↑y20.toNat : Int)) then
 kk (V.bool false) ([])
 else (match idx s9 (2 : Int) with
 | some y21 => (bif decide ((↑y21.toNat : Int) < (128 : Int)) then
 kk (V.bool false) ([])
 else (match idx s9 (2 : Int) with
 | some y22 => (bif decide ((191 : Int) < (↑y22.toNat : Int)) then
 kk (V.bool false) ([])
 else (match idx s9 (3 : Int) with
 | some y23 => (bif decide ((↑y23.toNat : Int) < (128 : Int)) then
 kk (V.bool false) ([])
 else (match idx s9 (3 : Int) with
 | some y24 => (bif decide ((191 : Int) < (↑y24.toNat : Int)) then
 kk (V.bool false) ([])
 else (bif decide ((0 : Int) ≤ (4 : Int) ∧ (4 : Int) ≤ (↑s9.length : Int) ∧ (↑s9.length : Int) ≤ (↑s9.length : Int) ∧ (↑s9.length : Int) ≤ (↑s9.length : Int)) then
 J f60t1 (f60s0 (List.take ((↑s9.length : Int).toNat - Int.toNat (4 : Int)) (List.drop (Int.toNat (4 : Int)) s9)))
 else none))
 | none => none))
 | none => none))
 | none => none))
 | none => none))
 | none => none))
 | none => none))
 else kk (V.bool false) ([])))) := by kernel_rfl
theorem f60_5 (s12 : List UInt8) :
 vseg (E5 8) f60cuts 0 J (vend (E5 8) 0 (fb Tryd.f60).1.results.toList false kk) 100000 true f60t9 (f60s5 s12) =
 (bif decide ((32 : Int) < (↑s12.length : Int)) then
 (bif decide ((8 : Nat) ≤ s12.length) then
 (bif decide ((0 : Int) ≤ (8 : Int) ∧ (8 : Int) ≤ (↑s12.length : Int) ∧ (↑s12.length : Int) ≤ (↑s12.length : Int) ∧ (↑s12.length : Int) ≤ (↑s12.length : Int)) then
 (bif decide ((8 : Nat) ≤ (List.take ((↑s12.length : Int).toNat - Int.toNat (8 : Int)) (List.drop (Int.toNat (8 : Int)) s12)).length) then
 (bif decide ((0 : Int) ≤ (16 : Int) ∧ (16 : Int) ≤ (↑s12.length : Int) ∧ (↑s12.length : Int) ≤ (↑s12.length : Int) ∧ (↑s12.length : Int) ≤ (↑s12.length : Int)) then
 (bif decide ((8 : Nat) ≤ (List.take ((↑s12.length : Int).toNat - Int.toNat (16 : Int)) (List.drop (Int.toNat (16 : Int)) s12)).length) then
 (bif decide ((0 : Int) ≤ (24 : Int) ∧ (24 : Int) ≤ (↑s12.length : Int) ∧ (↑s12.length : Int) ≤ (↑s12.length : Int) ∧ (↑s12.length : Int) ≤ (↑s12.length : Int)) then
 (bif decide ((8 : Nat) ≤ (List.take ((↑s12.length : Int).toNat - Int.toNat (24 : Int)) (List.drop (Int.toNat (24 : Int)) s12)).length) then
 (bif decide (bitop BinOp.and u64 (bitop BinOp.or u64 (bitop BinOp.or u64 (word8 s12) (word8 (List.take ((↑s12.length : Int).toNat - Int.toNat (8 : Int)) (List.drop (Int.toNat (8 : Int)) s12)))) (bitop BinOp.or u64 (word8 (List.take ((↑s12.length : Int).toNat - Int.toNat (16 : Int)) (List.drop (Int.toNat (16 : Int)) s12))) (word8 (List.take ((↑s12.length : Int).toNat - Int.toNat (24 : Int)) (List.drop (Int.toNat (24 : Int)) s12))))) (9259542123273814144 : Int) = (0 : Int)) then
 (bif decide ((0 : Int) ≤ (32 : Int) ∧ (32 : Int) ≤ (↑s12.length : Int) ∧ (↑s12.length : Int) ≤ (↑s12.length : Int) ∧ (↑s12.length : Int) ≤ (↑s12.length : Int)) then
 J f60t9 (f60s5 (List.take ((↑s12.length : Int).toNat - Int.toNat (32 : Int)) (List.drop (Int.toNat (32 : Int)) s12)))
 else none)
 else J f60t1 (f60s0 s12))
 else none)
 else none)
 else none)
 else none)
 else none)
 else none)
 else none)
 else J f60t1 (f60s0 s12)) := by kernel_rfl
noncomputable abbrev f104cuts : Cuts := look [(2, [1, 2, 10])]
noncomputable abbrev f104t2 : List Item := itemsAt (fb Tryd.f104).2 2
def f104s0 (s1 : List UInt8) (p2 : Nat) : St := { fr := [(1, V.fn 59 [] []), (2, V.bool true), (10, V.ref 0 0 0 0)], hp := [(0, Ob.iter s1 p2)], nx := 1 }
theorem f104_go (s : List UInt8) :
 vseg (E5 8) f104cuts 0 J (vend (E5 8) 0 (fb Tryd.f104).1.results.toList false kk) 100000 true [.code (fb Tryd.f104).2] (start ([V.str s, V.fn (59 : Nat) [] [], V.bool true]) ([])) =
 J f104t2 (f104s0 s 0) := by kernel_rfl
theorem f104_0 (s1 : List UInt8) (p2 : Nat) :
 vseg (E5 8) f104cuts 0 J (vend (E5 8) 0 (fb Tryd.f104).1.results.toList false kk) 100000 true f104t2 (f104s0 s1 p2) =
 (bif decide (p2 < s1.length) then
 (bif decide ((↑(Utf8.decode { data := s1.toArray } p2).fst : Int) < (32 : Int)) then
 kk (V.int i64 (↑p2 : Int)) ([])
 else (bif decide ((↑(Utf8.decode { data := s1.toArray } p2).fst : Int) = (127 : Int)) == true then
 kk (V.int i64 (↑p2 : Int)) ([])
 else J f104t2 (f104s0 s1 (p2 + (Utf8.decode { data := s1.toArray } p2).snd))))
 else kk (V.int i64 ((-1 : Int))) ([])) := by kernel_rfl
noncomputable abbrev f62cuts : Cuts := look [(2, [0, 1, 7, 8])]
noncomputable abbrev f62t2 : List Item := itemsAt (fb Tryd.f62).2 2
def f62s0 (s : List Int) (n1 : Int) : St := { fr := [(0, V.sl rI s), (1, V.fn 63 [] []), (7, V.int i64 (↑s.length : Int)), (8, V.int i64 n1)], hp := [], nx := 0 }
theorem f62_go (s : List Int) :
 vseg (E5 8) f62cuts 0 J (vend (E5 8) 0 (fb Tryd.f62).1.results.toList false kk) 100000 true [.code (fb Tryd.f62).2] (start ([V.sl rI s, V.fn (63 : Nat) [] []]) ([])) =
 J f62t2 (f62s0 s (0 : Int)) := by kernel_rfl
theorem f62_0 (s : List Int) (n1 : Int) :
 vseg (E5 8) f62cuts 0 J (vend (E5 8) 0 (fb Tryd.f62).1.results.toList false kk) 100000 true f62t2 (f62s0 s n1) =
 (bif decide (n1 < (↑s.length : Int)) then
 (bif decide ((0 : Int) < n1) then
 (match idx s n1 with
 | some y2 => (match idx s (i64.wrap (n1 - (1 : Int))) with
 | some y3 => (bif !decide (y3 < y2) then
 kk (V.bool false) ([])
 else J f62t2 (f62s0 s (i64.wrap (n1 + (1 : Int)))))
 | none => none)
 | none => none)
 else J f62t2 (f62s0 s (i64.wrap (n1 + (1 : Int)))))
 else kk (V.bool true) ([])) := by kernel_rfl
noncomputable abbrev f64cuts : Cuts := look [(2, [0, 1, 7, 8])]
noncomputable abbrev f64t2 : List Item := itemsAt (fb Tryd.f64).2 2
def f64s0 (s : List Int) (n1 : Int) : St := { fr := [(0, V.sl rI s), (1, V.fn 33 [] []), (7, V.int i64 (↑s.length : Int)), (8, V.int i64 n1)], hp := [], nx := 0 }
theorem f64_go (s : List Int) :
 vseg (E5 8) f64cuts 0 J (vend (E5 8) 0 (fb Tryd.f64).1.results.toList false kk) 100000 true [.code (fb Tryd.f64).2] (start ([V.sl rI s, V.fn (33 : Nat) [] []]) ([])) =
 J f64t2 (f64s0 s (0 : Int)) := by kernel_rfl
theorem f64_0 (s : List Int) (n1 : Int) :
 vseg (E5 8) f64cuts 0 J (vend (E5 8) 0 (fb Tryd.f64).1.results.toList false kk) 100000 true f64t2 (f64s0 s n1) =
 (bif decide (n1 < (↑s.length : Int)) then
 (match idx s n1 with
 | some y2 => (bif !decide (y2 = (4 : Int)) then
 kk (V.int i64 n1) ([])
 else J f64t2 (f64s0 s (i64.wrap (n1 + (1 : Int)))))
 | none => none)
 else kk (V.int i64 ((-1 : Int))) ([])) := by kernel_rfl
noncomputable abbrev f55cuts : Cuts := look [(2, [0, 3])]
noncomputable abbrev f55t2 : List Item := itemsAt (fb Tryd.f55).2 2
def f55s0 (s : List Int) (n1 : Int) : St := { fr := [(0, V.sl rI s), (3, V.int i64 n1)], hp := [], nx := 0 }
theorem f55_go (s : List Int) :
 vseg (E5 8) f55cuts 0 J (vend (E5 8) 0 (fb Tryd.f55).1.results.toList false kk) 100000 true [.code (fb Tryd.f55).2] (start ([V.sl rI s]) ([])) =
 J f55t2 (f55s0 s (0 : Int)) := by kernel_rfl
theorem f55_0 (s : List Int) (n1 : Int) :
 vseg (E5 8) f55cuts 0 J (vend (E5 8) 0 (fb Tryd.f55).1.results.toList false kk) 100000 true f55t2 (f55s0 s n1) =
 (bif decide (n1 < (↑s.length : Int)) then
 (match idx s n1 with
 | some y2 => (bif decide (y2 < (1 : Int)) then
 kk (V.bool false) ([])
 else (match idx s n1 with
 | some y3 => (bif decide ((4 : Int) < y3) then
 kk (V.bool false) ([])
 else (bif decide ((0 : Int) < n1) then
 (match idx s n1 with
 | some y4 => (match idx s (i64.wrap (n1 - (1 : Int))) with
 | some y5 => (bif decide (y4 ≤ y5) then
 kk (V.bool false) ([])
 else J f55t2 (f55s0 s (i64.wrap (n1 + (1 : Int)))))
 | none => none)
 | none => none)
 else J f55t2 (f55s0 s (i64.wrap (n1 + (1 : Int))))))
 | none => none))
 | none => none)
 else kk (V.bool true) ([])) := by kernel_rfl
end Vm.S6b
open Go Go.Proofs
namespace Vm.S6b
theorem f25_run {R : Type} (kk : V → List Ob → Option R) (p q : Pt) :
  vrun (E5 8) f25cuts 0 100000 (vend (E5 8) 0 (fb Tryd.f25).1.results.toList false kk) 1 [.code (fb Tryd.f25).2] (start [enc true rPitch p, enc true rPitch q] []) = kk (.int .i64 (Pt.cmp p q)) [] := by
 rw [vrun_succ, f25_go]
 cases hp : Pt.right p with
 | false => simp [Pt.cmp, hp]
 | true =>
   cases hq : Pt.right q with
   | false => simp [Pt.cmp, hq]
   | true =>
     simp only [Pt.mild_of hp, Pt.mild_of hq, Pt.cmp, hp, hq, Bool.not_true, cond_false, cond_true, Bool.and_self, if_true]
     by_cases h1 : sgn p.num q.num = 0
     ·by_cases h2 : sgn p.line q.line = 0 <;> simp [h1, h2]
     ·simp [h1]
theorem f57_run {R : Type} (kk : V → List Ob → Option R) (p q : Pt) :
  vrun (E5 8) f57cuts 0 100000 (vend (E5 8) 0 (fb Tryd.f57).1.results.toList false kk) 1 [.code (fb Tryd.f57).2] (start [enc true rPitch p, enc true rPitch q] []) = kk (.int .i64 (Pt.cmp p q)) [] := by
 rw [vrun_succ, f57_go]
 cases hp : Pt.right p with
 | false => simp [Pt.cmp, hp]
 | true =>
   cases hq : Pt.right q with
   | false => simp [Pt.cmp, hq]
   | true =>
     have a := (Pt.right_iff p).1 hp
     have b := (Pt.right_iff q).1 hq
     have c1 : Pt.line p = 7 * p.2.2 + p.1 := rfl
     have c2 : Pt.line q = 7 * q.2.2 + q.1 := rfl
     simp only [Pt.cmp, hp, hq, cond_true, Bool.and_self, if_true, decide_true, Bool.not_true, cond_false]
     have e1 := w64 (n := q.num - p.num) (by omega) (by omega)
     have e2 := w64 (n := q.line - p.line) (by omega) (by omega)
     simp only [e1, e2, bif_ki]
     refine congrArg (fun b => kk (V.int .i64 b) []) ?_
     simp only [sgn, Bool.cond_eq_ite, decide_eq_true_eq]
     repeat' split
     all_goals first | rfl | omega
theorem u8w (a : UInt8) : IntKind.wrap .i64 (a.toNat : Int) = U.by a := by
 have := a.toNat_lt
 exact w64 (by omega) (by omega)
theorem f87_tail {R : Type} (kk : V → List Ob → Option R) (s : List UInt8) (n : Int) (d : Nat) : ∀ (i : Nat) (N : Nat) (z : Int), z = (i : Int) → 2 ≤ i → i + d = n.toNat → n ≤ 4 → n.toNat ≤ s.length →
  vrun (E5 8) f87cuts 0 100000 (vend (E5 8) 0 (fb Tryd.f87).1.results.toList false kk) (N + d + 1) f87t24 (f87s2 s n z) = kk (.int .i64 (bif ((s.drop i).take d).all U.cont then n else 0)) [] := by
 induction d with
 | zero =>
   intro i N z hz h2 h h4 hl
   subst hz
   rw [vrun_succ, f87_2, bif_neg (by simp; omega)]; simp
 | succ d ih =>
   intro i N z hz h2 h h4 hl
   subst hz
   have hi : i < s.length := by omega
   rw [vrun_succ, f87_2, bif_pos (by simp; omega), idx_nat, List.getElem?_eq_getElem hi]
   dsimp only
   rw [List.drop_eq_getElem_cons hi, List.take_succ_cons, List.all_cons]
   by_cases h128 : (s[i].toNat : Int) < 128
   ·rw [bif_pos (by simpa using h128)]
    have : U.cont s[i] = false := by exact decide_eq_false (by simp only [U.by]; omega)
    rw [this]; rfl
   ·rw [bif_neg (by simpa using h128)]
    by_cases h191 : 191 < (s[i].toNat : Int)
    ·rw [bif_pos (by simpa using h191)]
     have : U.cont s[i] = false := by exact decide_eq_false (by simp only [U.by]; omega)
     rw [this]; rfl
    ·rw [bif_neg (by simpa using h191), wrap_succ (by omega), ← Nat.add_assoc N d 1, ih (i + 1) N _ rfl (by omega) (by omega) h4 hl]
     have : U.cont s[i] = true := by exact decide_eq_true (by simp only [U.by]; omega)
     rw [this, Bool.true_and]
theorem f87_mid {R : Type} (kk : V → List Ob → Option R) (a b : UInt8) (r : List UInt8) (n lo hi : Int) (hc : U.cls (U.by a) = (n, lo, hi)) (h2 : 2 ≤ n) (hl : n ≤ ((a :: b :: r).length : Int)) (M : Nat) :
  vrun (E5 8) f87cuts 0 100000 (vend (E5 8) 0 (fb Tryd.f87).1.results.toList false kk) (M + 2) f87t14 (f87s0 (a :: b :: r) (U.by a) n 128) =
   bif decide (lo ≤ U.by b ∧ U.by b ≤ hi) then vrun (E5 8) f87cuts 0 100000 (vend (E5 8) 0 (fb Tryd.f87).1.results.toList false kk) M f87t24 (f87s2 (a :: b :: r) n 2) else kk (.int .i64 0) [] := by
 have hidx : idx (a :: b :: r) 1 = some b := rfl
 rw [vrun_succ, f87_0, bif_neg (by exact decide_eq_false (by omega)), bif_neg (by exact decide_eq_false (by omega))]
 have h0 : (0 : Int) ≤ U.by b := by simp [U.by]
 rcases U.cls_cases a with ⟨h1, e⟩ | ⟨h1, e⟩ | ⟨h1, e⟩ | ⟨h1, e⟩ | ⟨h1, e⟩ | ⟨h1, e⟩ | ⟨h1, e⟩ | ⟨h1, e⟩ | ⟨h1, e⟩ <;> (rw [e] at hc; obtain ⟨rfl, rfl, rfl⟩ := (by simpa using hc : _ ∧ _ ∧ _))
 ·omega
 ·omega
 all_goals
  repeat (first | rw [bif_pos (by exact decide_eq_true (by omega))] | rw [bif_neg (by exact decide_eq_false (by omega))])
  rw [vrun_succ, f87_1, hidx]
  dsimp only
  simp only [u8w]
  generalize hb : U.by b = m at *
  first | have k1 : decide (U.by a = 237) = true := decide_eq_true (by omega) | have k1 : decide (U.by a = 237) = false := decide_eq_false (by omega)
  first | have k2 : decide (U.by a = 244) = true := decide_eq_true (by omega) | have k2 : decide (U.by a = 244) = false := decide_eq_false (by omega)
  simp only [k1, k2, decide_true, decide_false, cond_true, cond_false, Bool.cond_eq_ite, decide_eq_true_eq]
  simp only [Bool.false_eq_true, if_false, if_true]
  repeat' split
  all_goals first | rfl | (exfalso; omega)
theorem f87_run {R : Type} (kk : V → List Ob → Option R) (s : List UInt8) :
  ∃ n, vrun (E5 8) f87cuts 0 100000 (vend (E5 8) 0 (fb Tryd.f87).1.results.toList false kk) n [.code (fb Tryd.f87).2] (start [.str s] []) = kk (.int .i64 (U.rune s : Nat)) [] := by
 refine ⟨6, ?_⟩
 rw [vrun_succ, f87_go]
 match s with
 | [] => rfl
 | a :: r =>
   have hidx : idx (a :: r) 0 = some a := rfl
   rw [bif_neg (by exact decide_eq_false (by simp only [List.length_cons]; omega)), hidx]
   dsimp only
   simp only [u8w]
   rcases U.cls_cases a with ⟨h1, e⟩ | ⟨h1, e⟩ | ⟨h1, e⟩ | ⟨h1, e⟩ | ⟨h1, e⟩ | ⟨h1, e⟩ | ⟨h1, e⟩ | ⟨h1, e⟩ | ⟨h1, e⟩
   ·rw [U.rune_low e, bif_pos (by exact decide_eq_true (by omega))]; rfl
   ·rw [U.rune_bad e]
    rcases h1 with h1 | h1
    all_goals
     repeat (first | rw [bif_pos (by exact decide_eq_true (by omega))] | rw [bif_neg (by exact decide_eq_false (by omega))])
     rw [vrun_succ, f87_0, bif_pos (by simp)]; rfl
   ·repeat (first | rw [bif_pos (by exact decide_eq_true (by omega))] | rw [bif_neg (by exact decide_eq_false (by omega))])
    match r with
    | [] =>
      rw [U.rune_short1 e (by decide), vrun_succ, f87_0, bif_neg (by simp), bif_pos (by simp)]; rfl
    | b :: r =>
      rw [f87_mid kk a b r 2 _ _ e (by decide) (by simp; omega) 3, U.rune_two e]
      have t := f87_tail kk (a :: b :: r) 2 0 2 2 2 rfl (by decide) (by decide) (by decide) (by simp)
      rw [t]
      simp only [Bool.cond_eq_ite, decide_eq_true_eq]
      split <;> rfl
   all_goals
    repeat (first | rw [bif_pos (by exact decide_eq_true (by omega))] | rw [bif_neg (by exact decide_eq_false (by omega))])
    first
    | (match r with
       | [] => rw [U.rune_short1 e (by decide), vrun_succ, f87_0, bif_neg (by simp), bif_pos (by simp)]; rfl
       | [b] => rw [U.rune_short2 e (by decide) (by decide), vrun_succ, f87_0, bif_neg (by simp), bif_pos (by simp)]; rfl
       | b :: c :: r =>
         rw [f87_mid kk a b (c :: r) 3 _ _ e (by decide) (by simp; omega) 3, U.rune_three e]
         have t := f87_tail kk (a :: b :: c :: r) 3 1 2 1 2 rfl (by decide) (by decide) (by decide) (by simp)
         rw [t]
         simp only [List.drop_succ_cons, List.drop_zero, List.take_succ_cons, List.take_zero, List.all_cons, List.all_nil, Bool.and_true]
         simp only [Bool.cond_eq_ite, decide_eq_true_eq]
         repeat' split
         all_goals first | rfl | (simp_all; done))
    | (match r with
       | [] => rw [U.rune_short1 e (by decide), vrun_succ, f87_0, bif_neg (by simp), bif_pos (by simp)]; rfl
       | [b] => rw [U.rune_short2 e (by decide) (by decide), vrun_succ, f87_0, bif_neg (by simp), bif_pos (by simp)]; rfl
       | [b, c] => rw [U.rune_short3 e (by decide) (by decide) (by decide), vrun_succ, f87_0, bif_neg (by simp), bif_pos (by simp)]; rfl
       | b :: c :: d :: r =>
         rw [f87_mid kk a b (c :: d :: r) 4 _ _ e (by decide) (by simp; omega) 3, U.rune_four e]
         have t := f87_tail kk (a :: b :: c :: d :: r) 4 2 2 0 2 rfl (by decide) (by decide) (by decide) (by simp)
         rw [t]
         simp only [List.drop_succ_cons, List.drop_zero, List.take_succ_cons, List.take_zero, List.all_cons, List.all_nil, Bool.and_true]
         simp only [Bool.cond_eq_ite, decide_eq_true_eq, Bool.and_eq_true]
         repeat' split
         all_goals first | rfl | (simp_all; done))
end Vm.S6b
open Go Go.Proofs
namespace Vm.S6b
noncomputable abbrev vr72 {R : Type} (kk : V → List Ob → Option R) (n : Nat) (t : List Item) (s : St) : Option R := vrun (E5 8) f60cuts 0 100000 (vend (E5 8) 0 (fb Tryd.f60).1.results.toList false kk) n t s
section
variable {R : Type} (kk : V → List Ob → Option R)
theorem f60_t9 (L : Nat) (h1 : ∀ s : List UInt8, s.length ≤ L → ∀ N, 8 * s.length + 1 ≤ N → vr72 kk N f60t1 (f60s0 s) = kk (.bool (U.valid s)) []) : ∀ (l : Nat), l ≤ L → ∀ s : List UInt8, s.length ≤ l → ∀ N, 8 * s.length + 2 ≤ N → vr72 kk N f60t9 (f60s5 s) = kk (.bool (U.valid s)) [] := by
 intro l
 induction l with
 | zero =>
   intro hl s hs N hN
   obtain ⟨N, rfl⟩ : ∃ M, N = M + 1 := ⟨N - 1, by omega⟩
   rw [vr72, vrun_succ, f60_5, bif_neg (by exact decide_eq_false (by omega))]
   exact h1 s (by omega) N (by omega)
 | succ l ih =>
   intro hl s hs N hN
   obtain ⟨N, rfl⟩ : ∃ M, N = M + 1 := ⟨N - 1, by omega⟩
   rw [vr72, vrun_succ, f60_5]
   by_cases h32 : (32 : Int) < (s.length : Int)
   ·rw [bif_pos (decide_eq_true h32), td s 8 8 rfl, td s 16 16 rfl, td s 24 24 rfl, td s 32 32 rfl]
    rw [bif_pos (by exact decide_eq_true (by omega)), bif_pos (by exact decide_eq_true (by omega)), bif_pos (by exact decide_eq_true (by rw [List.length_drop]; omega)), bif_pos (by exact decide_eq_true (by omega)), bif_pos (by exact decide_eq_true (by rw [List.length_drop]; omega)), bif_pos (by exact decide_eq_true (by omega)), bif_pos (by exact decide_eq_true (by rw [List.length_drop]; omega))]
    by_cases hz : bitop BinOp.and IntKind.u64 (bitop BinOp.or IntKind.u64 (bitop BinOp.or IntKind.u64 (word8 s) (word8 (s.drop 8))) (bitop BinOp.or IntKind.u64 (word8 (s.drop 16)) (word8 (s.drop 24)))) (9259542123273814144 : Int) = (0 : Int)
    ·rw [bif_pos (decide_eq_true hz), bif_pos (by exact decide_eq_true (by omega))]
     have hz := and_zero hz
     simp only [bit_or] at hz
     obtain ⟨q1, q2⟩ := or_and_zero hz
     obtain ⟨q1, q1'⟩ := or_and_zero q1
     obtain ⟨q2, q2'⟩ := or_and_zero q2
     have e1 := U.valid_low 8 s (word8_low (by omega) q1) (by omega)
     have e2 := U.valid_low 8 (s.drop 8) (word8_low (by rw [List.length_drop]; omega) q1') (by rw [List.length_drop]; omega)
     have e3 := U.valid_low 8 (s.drop 16) (word8_low (by rw [List.length_drop]; omega) q2) (by rw [List.length_drop]; omega)
     have e4 := U.valid_low 8 (s.drop 24) (word8_low (by rw [List.length_drop]; omega) q2') (by rw [List.length_drop]; omega)
     simp only [List.drop_drop] at e2 e3 e4
     rw [e1, e2, e3, e4]
     exact ih (by omega) (s.drop 32) (by rw [List.length_drop]; omega) N (by rw [List.length_drop]; omega)
    ·rw [bif_neg (decide_eq_false hz)]
     exact h1 s (by omega) N (by omega)
   ·rw [bif_neg (decide_eq_false h32)]
    exact h1 s (by omega) N (by omega)
theorem f60_t7 (L : Nat) (h1 : ∀ s : List UInt8, s.length ≤ L → ∀ N, 8 * s.length + 1 ≤ N → vr72 kk N f60t1 (f60s0 s) = kk (.bool (U.valid s)) []) (s : List UInt8) (hs : s.length ≤ L) (N : Nat) (hN : 8 * s.length + 3 ≤ N) : vr72 kk N f60t7 (f60s3 s) = kk (.bool (U.valid s)) [] := by
 obtain ⟨N, rfl⟩ : ∃ M, N = M + 1 := ⟨N - 1, by omega⟩
 rw [vr72, vrun_succ, f60_3]
 by_cases h16 : (16 : Int) < (s.length : Int)
 ·rw [bif_pos (decide_eq_true h16), td s 8 8 rfl, td s 16 16 rfl]
  rw [bif_pos (by exact decide_eq_true (by omega)), bif_pos (by exact decide_eq_true (by omega)), bif_pos (by exact decide_eq_true (by rw [List.length_drop]; omega))]
  by_cases hz : bitop BinOp.and IntKind.u64 (bitop BinOp.or IntKind.u64 (word8 s) (word8 (s.drop 8))) (9259542123273814144 : Int) = (0 : Int)
  ·rw [bif_pos (decide_eq_true hz), bif_pos (by exact decide_eq_true (by omega))]
   have hz := and_zero hz
   simp only [bit_or] at hz
   obtain ⟨q1, q2⟩ := or_and_zero hz
   have e1 := U.valid_low 8 s (word8_low (by omega) q1) (by omega)
   have e2 := U.valid_low 8 (s.drop 8) (word8_low (by rw [List.length_drop]; omega) q2) (by rw [List.length_drop]; omega)
   simp only [List.drop_drop] at e2
   rw [e1, e2]
   exact f60_t9 kk L h1 L (Nat.le_refl _) (s.drop 16) (by rw [List.length_drop]; omega) N (by rw [List.length_drop]; omega)
  ·rw [bif_neg (decide_eq_false hz)]
   exact h1 s (by omega) N (by omega)
 ·rw [bif_neg (decide_eq_false h16)]
  exact h1 s (by omega) N (by omega)
theorem f60_t5 (L : Nat) (h1 : ∀ s : List UInt8, s.length ≤ L → ∀ N, 8 * s.length + 1 ≤ N → vr72 kk N f60t1 (f60s0 s) = kk (.bool (U.valid s)) []) (s : List UInt8) (hs : s.length ≤ L) (N : Nat) (hN : 8 * s.length + 4 ≤ N) : vr72 kk N f60t5 (f60s1 s) = kk (.bool (U.valid s)) [] := by
 obtain ⟨N, rfl⟩ : ∃ M, N = M + 1 := ⟨N - 1, by omega⟩
 rw [vr72, vrun_succ, f60_1]
 by_cases h8 : (8 : Int) < (s.length : Int)
 ·rw [bif_pos (decide_eq_true h8), td s 8 8 rfl, bif_pos (by exact decide_eq_true (by omega))]
  by_cases hz : bitop BinOp.and IntKind.u64 (word8 s) (9259542123273814144 : Int) = (0 : Int)
  ·rw [bif_pos (decide_eq_true hz), bif_pos (by exact decide_eq_true (by omega))]
   rw [U.valid_low 8 s (word8_low (by omega) (and_zero hz)) (by omega)]
   exact f60_t7 kk L h1 (s.drop 8) (by rw [List.length_drop]; omega) N (by rw [List.length_drop]; omega)
  ·rw [bif_neg (decide_eq_false hz)]
   exact h1 s (by omega) N (by omega)
 ·rw [bif_neg (decide_eq_false h8)]
  exact h1 s (by omega) N (by omega)
theorem f60_t1 : ∀ (L : Nat) (s : List UInt8), s.length ≤ L → ∀ N, 8 * s.length + 1 ≤ N → vr72 kk N f60t1 (f60s0 s) = kk (.bool (U.valid s)) [] := by
 intro L
 induction L with
 | zero =>
   intro s hs N hN
   obtain ⟨N, rfl⟩ : ∃ M, N = M + 1 := ⟨N - 1, by omega⟩
   rw [vr72, vrun_succ, f60_0, bif_neg (by exact decide_eq_false (by omega))]
   obtain rfl : s = [] := List.length_eq_zero_iff.1 (by omega)
   rw [U.valid_nil]
 | succ L h1 =>
   intro s hs N hN
   obtain ⟨N, rfl⟩ : ∃ M, N = M + 1 := ⟨N - 1, by omega⟩
   rw [vr72, vrun_succ, f60_0]
   match s, hs, hN with
   | [], hs, hN => rw [bif_neg (by exact decide_eq_false (by simp)), U.valid_nil]
   | a :: r, hs, hN =>
     have hi : idx (a :: r) 0 = some a := rfl
     rw [bif_pos (by exact decide_eq_true (by simp only [List.length_cons]; omega)), hi]
     dsimp only
     by_cases ha : (a.toNat : Int) < 128
     ·have e : U.cls (U.by a) = (1, 0, 0) := by simp only [U.cls]; rw [if_pos (by simp only [U.by]; omega)]
      rw [bif_pos (decide_eq_true ha), bif_pos (by exact decide_eq_true (by simp only [List.length_cons]; omega)), td (a :: r) 1 1 rfl, U.valid_step (by simp) (by rw [U.rune_low e]; decide), U.rune_low e]
      exact f60_t5 kk L h1 r (by simpa using hs) N (by simp only [List.length_cons] at hN; omega)
     ·rw [bif_neg (decide_eq_false ha)]
      obtain ⟨N, rfl⟩ : ∃ M, N = M + 2 := ⟨N - 2, by simp only [List.length_cons] at hN; omega⟩
      have ht := U.tab_eq a (by simp only [U.by]; omega)
      simp only [U.tab, U.by] at ht
      rw [vrun_succ, f60_2]
      revert ht
      cases idx utf8First (a.toNat : Int) with
      | none => intro ht; cases ht
      | some y =>
        dsimp only
        cases idx utf8Accept (y.fdiv ((2 : Int) ^ min (Int.toNat (4 : Int)) IntKind.u8.bits)) with
        | none => intro ht; cases ht
        | some z =>
          dsimp only
          intro ht
          have ht := Option.some.inj ht
          have hN' : 8 * r.length + 6 ≤ N + 2 := by simp only [List.length_cons] at hN; omega
          have hr : r.length ≤ L := by simpa using hs
          have hbi : ∀ x : UInt8, (0 : Int) ≤ U.by x := fun x => by simp [U.by]
          rcases U.cls_cases a with ⟨h3, e⟩ | ⟨h3, e⟩ | ⟨h3, e⟩ | ⟨h3, e⟩ | ⟨h3, e⟩ | ⟨h3, e⟩ | ⟨h3, e⟩ | ⟨h3, e⟩ | ⟨h3, e⟩
          ·simp only [U.by] at h3; exact absurd h3 ha
          ·have e' := e
           simp only [U.by] at e'
           rw [e', show U.tv (0, 0, 0) = (1, 0, 0) from rfl] at ht
           rw [vrun_succ, f60_4, U.valid_bad (by simp) (U.rune_bad e)]
           rw [show IntKind.i64.wrap (bitop BinOp.and IntKind.u8 y 7) = 1 from congrArg (·.1) ht]
           rfl
          ·have e' := e
           simp only [U.by] at e'
           rw [e', U.tv, if_neg (by decide)] at ht
           rw [vrun_succ, f60_4, show IntKind.i64.wrap (bitop BinOp.and IntKind.u8 y 7) = 2 from congrArg (·.1) ht, show z = (128, 191) from congrArg (·.2) ht]
           match r with
           | [] => rw [U.valid_bad (by simp) (U.rune_short1 e (by decide))]; rfl
           | b :: r =>
             have i1 : idx (a :: b :: r) 1 = some b := rfl
             rw [bif_pos (by rfl), bif_neg (by exact decide_eq_false (by simp only [List.length_cons]; omega)), i1]
             dsimp only
             by_cases c1 : 128 ≤ U.by b ∧ U.by b ≤ 191
             ·have v : U.rune (a :: b :: r) = 2 := by rw [U.rune_two e, if_pos c1]
              simp only [U.by] at c1
              rw [bif_neg (by exact decide_eq_false (by omega)), bif_neg (by exact decide_eq_false (by omega)), bif_pos (by exact decide_eq_true (by simp only [List.length_cons]; omega)), td (a :: b :: r) 2 2 rfl, U.valid_step (by simp) (by rw [v]; decide), v]
              exact h1 r (by simp only [List.length_cons] at hr; omega) N (by simp only [List.length_cons] at hN'; omega)
             ·rw [U.valid_bad (by simp) (by rw [U.rune_two e, if_neg c1])]
              simp only [U.by] at c1
              by_cases c2 : (b.toNat : Int) < 128
              ·rw [bif_pos (decide_eq_true c2)]
              ·rw [bif_neg (decide_eq_false c2), bif_pos (by exact decide_eq_true (by omega))]
          all_goals
           have e' := e
           simp only [U.by] at e'
           rw [e', U.tv, if_neg (by decide)] at ht
           have z1 := congrArg (·.1) ht
           have z2 := congrArg (·.2) ht
           dsimp only at z1 z2
           rw [vrun_succ, f60_4, z1, z2]
           clear z1 z2 ht
           match r with
           | [] => rw [U.valid_bad (by simp) (U.rune_short1 e (by decide))]; rfl
           | [b] => rw [U.valid_bad (by simp) (U.rune_short2 e (by decide) (by decide))]; rfl
           | b :: c :: r =>
             have i1 : idx (a :: b :: c :: r) 1 = some b := rfl
             have i2 : idx (a :: b :: c :: r) 2 = some c := rfl
             have hb0 := hbi b
             have hc0 := hbi c
             have hb1 : U.by b = (b.toNat : Int) := rfl
             have hc1 : U.by c = (c.toNat : Int) := rfl
             first
             | (rw [bif_neg (by rfl), bif_pos (by rfl), bif_neg (by exact decide_eq_false (by simp only [List.length_cons]; omega)), i1]
                have q := U.rune_three (r := r) (b := b) (c := c) e
                dsimp only
                split at q
                ·rename_i c1
                 obtain ⟨c1, c2⟩ := c1
                 have c2 := of_decide_eq_true c2
                 rw [bif_neg (by exact decide_eq_false (by omega)), bif_neg (by exact decide_eq_false (by omega)), i2]
                 dsimp only
                 rw [bif_neg (by exact decide_eq_false (by omega)), bif_neg (by exact decide_eq_false (by omega)), bif_pos (by exact decide_eq_true (by simp only [List.length_cons]; omega)), td (a :: b :: c :: r) 3 3 rfl, U.valid_step (by simp) (by rw [q]; decide), q]
                 exact h1 r (by simp only [List.length_cons] at hr; omega) N (by simp only [List.length_cons] at hN'; omega)
                ·rename_i c1
                 rw [U.valid_bad (by simp) q]
                 simp only [Bool.cond_eq_ite, decide_eq_true_eq]
                 split
                 ·rfl
                 split
                 ·rfl
                 rw [i2]
                 dsimp only
                 split
                 ·rfl
                 split
                 ·rfl
                 exact absurd ⟨⟨by omega, by omega⟩, decide_eq_true (by omega)⟩ c1)
             | (match r with
                | [] => rw [U.valid_bad (by simp) (U.rune_short3 e (by decide) (by decide) (by decide))]; rfl
                | d :: r =>
                have i1 : idx (a :: b :: c :: d :: r) 1 = some b := rfl
                have i2 : idx (a :: b :: c :: d :: r) 2 = some c := rfl
                have i3 : idx (a :: b :: c :: d :: r) 3 = some d := rfl
                have hd0 := hbi d
                have hd1 : U.by d = (d.toNat : Int) := rfl
                rw [bif_neg (by rfl), bif_neg (by rfl), bif_pos (by rfl), bif_neg (by exact decide_eq_false (by simp only [List.length_cons]; omega)), i1]
                have q := U.rune_four (r := r) (b := b) (c := c) (d := d) e
                dsimp only
                split at q
                ·rename_i c1
                 obtain ⟨c1, c2, c3⟩ := c1
                 have c2 := of_decide_eq_true c2
                 have c3 := of_decide_eq_true c3
                 rw [bif_neg (by exact decide_eq_false (by omega)), bif_neg (by exact decide_eq_false (by omega)), i2]
                 dsimp only
                 rw [bif_neg (by exact decide_eq_false (by omega)), bif_neg (by exact decide_eq_false (by omega)), i3]
                 dsimp only
                 rw [bif_neg (by exact decide_eq_false (by omega)), bif_neg (by exact decide_eq_false (by omega)), bif_pos (by exact decide_eq_true (by simp only [List.length_cons]; omega)), td (a :: b :: c :: d :: r) 4 4 rfl, U.valid_step (by simp) (by rw [q]; decide), q]
                 exact h1 r (by simp only [List.length_cons] at hr; omega) N (by simp only [List.length_cons] at hN'; omega)
                ·rename_i c1
                 rw [U.valid_bad (by simp) q]
                 simp only [Bool.cond_eq_ite, decide_eq_true_eq]
                 split
                 ·rfl
                 split
                 ·rfl
                 rw [i2]
                 dsimp only
                 split
                 ·rfl
                 split
                 ·rfl
                 rw [i3]
                 dsimp only
                 split
                 ·rfl
                 split
                 ·rfl
                 exact absurd ⟨⟨by omega, by omega⟩, decide_eq_true (by omega), decide_eq_true (by omega)⟩ c1)
end
theorem f60_run {R : Type} (kk : V → List Ob → Option R) (s : List UInt8) :
  ∃ n, vrun (E5 8) f60cuts 0 100000 (vend (E5 8) 0 (fb Tryd.f60).1.results.toList false kk) n [.code (fb Tryd.f60).2] (start [.str s] []) = kk (.bool (U.valid s)) [] := by
 refine ⟨8 * s.length + 1 + 1, ?_⟩
 rw [vrun_succ, f60_go]
 exact f60_t1 kk s.length s (Nat.le_refl _) _ (Nat.le_refl _)
end Vm.S6b
open Go Go.Proofs
namespace Vm.S6b
theorem f104_loop {R : Type} (kk : V → List Ob → Option R) (s : List UInt8) : ∀ (L p : Nat), s.length ≤ p + L →
  vrun (E5 8) f104cuts 0 100000 (vend (E5 8) 0 (fb Tryd.f104).1.results.toList false kk) (L + 1) f104t2 (f104s0 s p) = kk (.int .i64 (U.oddAt s L p)) [] := by
 intro L
 induction L with
 | zero => intro p hp; rw [vrun_succ, f104_0, bif_neg (by exact decide_eq_false (by omega))]; rfl
 | succ L ih =>
   intro p hp
   have hd : Utf8.decode ⟨s.toArray⟩ p = dec (s.drop p) := decode_drop s p
   rw [vrun_succ, f104_0, hd]
   unfold U.oddAt
   by_cases h0 : p < s.length
   ·rw [bif_pos (decide_eq_true h0), if_pos h0]
    by_cases c1 : ((dec (s.drop p)).1 : Int) < 32
    ·rw [bif_pos (decide_eq_true c1), if_pos (Or.inl c1)]
    ·rw [bif_neg (decide_eq_false c1)]
     by_cases c2 : ((dec (s.drop p)).1 : Int) = 127
     ·rw [bif_pos (by rw [decide_eq_true c2]; rfl), if_pos (Or.inr c2)]
     ·rw [bif_neg (by rw [decide_eq_false c2]; rfl), if_neg (by omega)]
      have := dec_pos (s.drop p)
      exact ih _ (by omega)
   ·rw [bif_neg (decide_eq_false h0), if_neg h0]
theorem f104_run {R : Type} (kk : V → List Ob → Option R) (s : List UInt8) :
  vrun (E5 8) f104cuts 0 100000 (vend (E5 8) 0 (fb Tryd.f104).1.results.toList false kk) (s.length + 1 + 1) [.code (fb Tryd.f104).2] (start [.str s, .fn 59 [] [], .bool true] []) = kk (.int .i64 (U.oddAt s s.length 0)) [] := by
 rw [vrun_succ, f104_go]
 exact f104_loop kk s s.length 0 (by omega)
theorem f62_loop {R : Type} (kk : V → List Ob → Option R) (l : List Int) (hb : l.length < 4611686018427387904) : ∀ (d i : Nat), i + d = l.length →
  vrun (E5 8) f62cuts 0 100000 (vend (E5 8) 0 (fb Tryd.f62).1.results.toList false kk) (d + 1) f62t2 (f62s0 l i) = kk (.bool (risesI (l.drop (i - 1)))) [] := by
 intro d
 induction d with
 | zero =>
   intro i hi
   rw [vrun_succ, f62_0, bif_neg (by exact decide_eq_false (by omega)), risesI_short (by rw [List.length_drop]; omega)]
 | succ d ih =>
   intro i hi
   have hlt : i < l.length := by omega
   rw [vrun_succ, f62_0, bif_pos (by exact decide_eq_true (by omega)), wrap_succ (by omega), ih (i + 1) (by omega)]
   match i, hi, hlt with
   | 0, hi, hlt => rw [bif_neg (by exact decide_eq_false (by omega))]
   | i + 1, hi, hlt =>
     rw [bif_pos (by exact decide_eq_true (by omega)), w64 (n := ((i + 1 : Nat) : Int) - 1) (by omega) (by omega), idx_nat, idx_get l _ i (by omega), List.getElem?_eq_getElem hlt, List.getElem?_eq_getElem (by omega : i < l.length)]
     dsimp only
     rw [show i + 1 - 1 = i from rfl, show i + 1 + 1 - 1 = i + 1 from rfl, risesI_drop l i hlt]
     by_cases h : l[i] < l[i + 1]
     ·rw [bif_neg (by simp [h]), decide_eq_true h, Bool.true_and]
     ·rw [bif_pos (by simp; omega), decide_eq_false h, Bool.false_and]
theorem f62_run {R : Type} (kk : V → List Ob → Option R) (l : List Int) (hb : l.length < 4611686018427387904) :
  ∃ n, vrun (E5 8) f62cuts 0 100000 (vend (E5 8) 0 (fb Tryd.f62).1.results.toList false kk) n [.code (fb Tryd.f62).2] (start [enc false (.cons (.sl rI) .nil) l, .fn 63 [] []] []) = kk (.bool (risesI l)) [] := by
 refine ⟨l.length + 1 + 1, ?_⟩
 rw [vrun_succ]
 refine (f62_go _ kk l).trans ?_
 exact f62_loop kk l hb l.length 0 (by omega)
theorem f64_loop {R : Type} (kk : V → List Ob → Option R) (l : List Int) (hb : l.length < 4611686018427387904) : ∀ (d i : Nat), i + d = l.length →
  vrun (E5 8) f64cuts 0 100000 (vend (E5 8) 0 (fb Tryd.f64).1.results.toList false kk) (d + 1) f64t2 (f64s0 l i) = kk (.int .i64 (notFour (l.drop i) i)) [] := by
 intro d
 induction d with
 | zero =>
   intro i hi
   rw [vrun_succ, f64_0, bif_neg (by exact decide_eq_false (by omega)), List.drop_eq_nil_of_le (by omega)]; rfl
 | succ d ih =>
   intro i hi
   have hlt : i < l.length := by omega
   rw [vrun_succ, f64_0, bif_pos (by exact decide_eq_true (by omega)), idx_nat, List.getElem?_eq_getElem hlt, wrap_succ (by omega), ih (i + 1) (by omega), List.drop_eq_getElem_cons hlt]
   dsimp only [notFour]
   by_cases h : l[i] = 4
   ·rw [bif_neg (by simp [h]), if_pos h]
   ·rw [bif_pos (by simp [h]), if_neg h]
theorem f64_run {R : Type} (kk : V → List Ob → Option R) (l : List Int) (hb : l.length < 4611686018427387904) :
  ∃ n, vrun (E5 8) f64cuts 0 100000 (vend (E5 8) 0 (fb Tryd.f64).1.results.toList false kk) n [.code (fb Tryd.f64).2] (start [enc false (.cons (.sl rI) .nil) l, .fn 33 [] []] []) = kk (.int .i64 (notFour l 0)) [] := by
 refine ⟨l.length + 1 + 1, ?_⟩
 rw [vrun_succ]
 refine (f64_go _ kk l).trans ?_
 exact f64_loop kk l hb l.length 0 (by omega)
theorem f55_loop {R : Type} (kk : V → List Ob → Option R) (l : List Int) (hb : l.length < 4611686018427387904) : ∀ (d i : Nat), i + d = l.length →
  vrun (E5 8) f55cuts 0 100000 (vend (E5 8) 0 (fb Tryd.f55).1.results.toList false kk) (d + 1) f55t2 (f55s0 l i) = kk (.bool ((l.drop i).all (fun m => decide (1 ≤ m ∧ m ≤ 4)) && risesI (l.drop (i - 1)))) [] := by
 intro d
 induction d with
 | zero =>
   intro i hi
   rw [vrun_succ, f55_0, bif_neg (by exact decide_eq_false (by omega)), risesI_short (by rw [List.length_drop]; omega), List.drop_eq_nil_of_le (by omega)]; rfl
 | succ d ih =>
   intro i hi
   have hlt : i < l.length := by omega
   rw [vrun_succ, f55_0, bif_pos (by exact decide_eq_true (by omega)), wrap_succ (by omega), ih (i + 1) (by omega), idx_nat, List.getElem?_eq_getElem hlt]
   dsimp only
   rw [List.drop_eq_getElem_cons hlt, List.all_cons]
   by_cases h1 : l[i] < 1
   ·rw [bif_pos (decide_eq_true h1), show decide (1 ≤ l[i] ∧ l[i] ≤ 4) = false from decide_eq_false (by omega)]; rfl
   ·rw [bif_neg (decide_eq_false h1)]
    by_cases h4 : 4 < l[i]
    ·rw [bif_pos (decide_eq_true h4), show decide (1 ≤ l[i] ∧ l[i] ≤ 4) = false from decide_eq_false (by omega)]; rfl
    ·rw [bif_neg (decide_eq_false h4), show decide (1 ≤ l[i] ∧ l[i] ≤ 4) = true from decide_eq_true (by omega), Bool.true_and]
     match i, hi, hlt with
     | 0, hi, hlt => rw [bif_neg (by exact decide_eq_false (by omega))]
     | i + 1, hi, hlt =>
       rw [bif_pos (by exact decide_eq_true (by omega)), w64 (n := ((i + 1 : Nat) : Int) - 1) (by omega) (by omega), idx_get l _ i (by omega), List.getElem?_eq_getElem (by omega : i < l.length)]
       dsimp only
       rw [show i + 1 - 1 = i from rfl, show i + 1 + 1 - 1 = i + 1 from rfl, risesI_drop l i hlt]
       by_cases h : l[i] < l[i + 1]
       ·rw [bif_neg (by exact decide_eq_false (by omega)), decide_eq_true h, Bool.true_and]
       ·rw [bif_pos (by exact decide_eq_true (by omega)), decide_eq_false h, Bool.false_and, Bool.and_false]
theorem f55_run {R : Type} (kk : V → List Ob → Option R) (l : List Int) (hb : l.length < 4611686018427387904) :
  ∃ n, vrun (E5 8) f55cuts 0 100000 (vend (E5 8) 0 (fb Tryd.f55).1.results.toList false kk) n [.code (fb Tryd.f55).2] (start [enc false (.cons (.sl rI) .nil) l] []) = kk (.bool (marked l)) [] := by
 refine ⟨l.length + 1 + 1, ?_⟩
 rw [vrun_succ]
 refine (f55_go _ kk l).trans ?_
 exact f55_loop kk l hb l.length 0 (by omega)
noncomputable def f104e : Entry Tryd.prog gls where
 f := 104
 g := fun args os => match args, os with
   | [.str s, .fn g [] [], .bool true], [] => bif Nat.beq g 59 then some (true, .int .i64 (U.oddAt s s.length 0), []) else none
   | _, _ => none
 says := fun args os c v os' h hc => by
  split at h
  ·rename_i s g
   cases hb : Nat.beq g 59 with
   | false => rw [hb] at h; cases h
   | true =>
     rw [hb] at h
     obtain rfl := Nat.eq_of_beq_eq_true hb
     cases h
     have hn := f104_run (fun v os => some (v, os)) s
     exact contract_run (fn := (fb Tryd.f104).1) (c := (fb Tryd.f104).2) mixed (ready5 8) (glE5 8) Tryd.func104 (by kernel_rfl) rfl rfl (by kernel_rfl) hn
  ·cases h
abbrev srI' : Ks := .cons (.sl rI) .nil
noncomputable def f25e : Entry Tryd.prog gls := .two 25 true rPitch true rPitch (by intro h; cases h <;> rfl) (by intro h; cases h <;> rfl) (fun (x : Pt) (y : Pt) => (true, .int .i64 (Pt.cmp x y))) fun x y h => by
 have _ := h
 have hn := f25_run (fun v os => some (v, os)) x y
 exact contract_run (fn := (fb Tryd.f25).1) (c := (fb Tryd.f25).2) mixed (ready5 8) (glE5 8) Tryd.func25 (by kernel_rfl) rfl rfl (by kernel_rfl) hn
noncomputable def f57e : Entry Tryd.prog gls := .two 57 true rPitch true rPitch (by intro h; cases h <;> rfl) (by intro h; cases h <;> rfl) (fun (x : Pt) (y : Pt) => (true, .int .i64 (Pt.cmp x y))) fun x y h => by
 have _ := h
 have hn := f57_run (fun v os => some (v, os)) x y
 exact contract_run (fn := (fb Tryd.f57).1) (c := (fb Tryd.f57).2) mixed (ready5 8) (glE5 8) Tryd.func57 (by kernel_rfl) rfl rfl (by kernel_rfl) hn
noncomputable def f87e : Entry Tryd.prog gls := .one 87 false rS (by intro h; cases h <;> rfl) (fun (x : List UInt8) => (true, .int .i64 (U.rune x : Nat))) fun x h => by
 have _ := h
 obtain ⟨n, hn⟩ := f87_run (fun v os => some (v, os)) x
 exact contract_run (fn := (fb Tryd.f87).1) (c := (fb Tryd.f87).2) mixed (ready5 8) (glE5 8) Tryd.func87 (by kernel_rfl) rfl rfl (by kernel_rfl) hn
noncomputable def f60e : Entry Tryd.prog gls := .one 60 false rS (by intro h; cases h <;> rfl) (fun (x : List UInt8) => (true, .bool (U.valid x))) fun x h => by
 have _ := h
 obtain ⟨n, hn⟩ := f60_run (fun v os => some (v, os)) x
 exact contract_run (fn := (fb Tryd.f60).1) (c := (fb Tryd.f60).2) mixed (ready5 8) (glE5 8) Tryd.func60 (by kernel_rfl) rfl rfl (by kernel_rfl) hn
noncomputable def f62e : Entry Tryd.prog gls := .oneF 62 false srI' (by intro h; cases h <;> rfl) 63 (fun (x : List Int) => (decide (x.length < 4611686018427387904), .bool (risesI x))) fun x h => by
 have _ := h
 obtain ⟨n, hn⟩ := f62_run (fun v os => some (v, os)) x (of_decide_eq_true h)
 exact contract_run (fn := (fb Tryd.f62).1) (c := (fb Tryd.f62).2) mixed (ready5 8) (glE5 8) Tryd.func62 (by kernel_rfl) rfl rfl (by kernel_rfl) hn
noncomputable def f64e : Entry Tryd.prog gls := .oneF 64 false srI' (by intro h; cases h <;> rfl) 33 (fun (x : List Int) => (decide (x.length < 4611686018427387904), .int .i64 (notFour x 0))) fun x h => by
 have _ := h
 obtain ⟨n, hn⟩ := f64_run (fun v os => some (v, os)) x (of_decide_eq_true h)
 exact contract_run (fn := (fb Tryd.f64).1) (c := (fb Tryd.f64).2) mixed (ready5 8) (glE5 8) Tryd.func64 (by kernel_rfl) rfl rfl (by kernel_rfl) hn
noncomputable def f55e : Entry Tryd.prog gls := .one 55 false srI' (by intro h; cases h <;> rfl) (fun (x : List Int) => (decide (x.length < 4611686018427387904), .bool (marked x))) fun x h => by
 have _ := h
 obtain ⟨n, hn⟩ := f55_run (fun v os => some (v, os)) x (of_decide_eq_true h)
 exact contract_run (fn := (fb Tryd.f55).1) (c := (fb Tryd.f55).2) mixed (ready5 8) (glE5 8) Tryd.func55 (by kernel_rfl) rfl rfl (by kernel_rfl) hn
noncomputable def es6 : List (Entry Tryd.prog gls) := [f25e, f57e, f87e, f60e, f62e, f64e, f55e, f104e] ++ es5
noncomputable def E6 (n : Nat) : Env := interp fns (look tys) gls mvs (tabOf es6) 100000 n
theorem ready6 (n : Nat) : Ready Tryd.prog (E6 n) := ready_of mixed fnsAll tysOk rfsOk n
theorem glE6 (n : Nat) : (E6 n).gl = gls := by cases n <;> rfl
end Vm.S6b
