/- What fills a length, and rests, as runs of the value machine. -/
import Derived.Test.YtgkanaehhjkieaaDoorLawD
import Derived.Test.YtgkanaehhjkieaaDoorVmE
import Derived.KernelRfl
import Derived.Test.YtgkanaehhjkieaaDoorWords
set_option maxRecDepth 100000
open Go Go.Proofs
namespace Vm.S07
noncomputable abbrev f59cuts : Cuts := fun _ => none
theorem f59_go {R : Type} (J : List Item → St → Option R) (kk : V → List Ob → Option R) (x : Int × Int) (v : Int × Int × Int × Int) :
  vseg ((E17 8)) f59cuts 0 J (vend ((E17 8)) 0 (fb Tryd.f59).1.results.toList false kk) 100000 true [.code (fb Tryd.f59).2] (start ([enc true rIv x, enc true rVal v]) ([])) =
  (bif decide ((0 : Int) < v.snd.snd.fst) then
    (bif decide (IntKind.i64.wrap (x.snd * v.snd.snd.snd) = (0 : Int)) then
      none
    else (bif !decide ((IntKind.i64.wrap (IntKind.i64.wrap (x.fst * (64 : Int)) * v.snd.snd.fst)).tmod (IntKind.i64.wrap (x.snd * v.snd.snd.snd)) = (0 : Int)) then
        kk (V.int IntKind.i64 (0 : Int)) ([])
      else (bif decide (IntKind.i64.wrap (x.snd * v.snd.snd.snd) = (0 : Int)) then
          none
        else kk (V.int IntKind.i64 (IntKind.i64.wrap ((IntKind.i64.wrap (IntKind.i64.wrap (x.fst * (64 : Int)) * v.snd.snd.fst)).tdiv (IntKind.i64.wrap (x.snd * v.snd.snd.snd))))) ([]))))
  else (bif decide (x.snd = (0 : Int)) then
      none
    else (bif !decide ((IntKind.i64.wrap (x.fst * (64 : Int))).tmod x.snd = (0 : Int)) then
        kk (V.int IntKind.i64 (0 : Int)) ([])
      else (bif decide (x.snd = (0 : Int)) then
          none
        else kk (V.int IntKind.i64 (IntKind.i64.wrap ((IntKind.i64.wrap (x.fst * (64 : Int))).tdiv x.snd))) ([]))))) := by kernel_rfl

end Vm.S07

open Go Go.Proofs
namespace Vm.S07
theorem f59_run {R : Type} (kk : V → List Ob → Option R) (x : Int × Int) (v : Vl) (h : unitsG x v = true) :
    vrun (E17 8) f59cuts 0 100000 (vend (E17 8) 0 (fb Tryd.f59).1.results.toList false kk) 1 [.code (fb Tryd.f59).2] (start [enc true rIv x, enc true rVal v] []) = kk (.int .i64 (unitsV x v)) [] := by
  rw [vrun_succ]
  refine (f59_go _ kk x v).trans ?_
  unfold unitsV
  unfold unitsG at h
  by_cases h0 : 0 < v.2.2.1
  · rw [if_pos h0, decide_eq_true_eq] at h
    rw [bif_pos (decide_eq_true h0), if_pos h0, bif_neg (decide_eq_false h)]
    by_cases h1 : (IntKind.i64.wrap (IntKind.i64.wrap (x.1 * 64) * v.2.2.1)).tmod (IntKind.i64.wrap (x.2 * v.2.2.2)) = 0
    · rw [decide_eq_true h1, Bool.not_true, cond_false, bif_neg (decide_eq_false h), if_pos h1]
    · rw [decide_eq_false h1, Bool.not_false, cond_true, if_neg h1]
  · rw [if_neg h0, decide_eq_true_eq] at h
    rw [bif_neg (decide_eq_false h0), if_neg h0, bif_neg (decide_eq_false h)]
    by_cases h1 : (IntKind.i64.wrap (x.1 * 64)).tmod x.2 = 0
    · rw [decide_eq_true h1, Bool.not_true, cond_false, bif_neg (decide_eq_false h), if_pos h1]
    · rw [decide_eq_false h1, Bool.not_false, cond_true, if_neg h1]
noncomputable def f59e : Entry Tryd.prog gls := .two 59 true rIv true rVal (by intro h; cases h <;> rfl) (by intro h; cases h <;> rfl) (fun (x : Int × Int) (y : Vl) => (unitsG x y, .int .i64 (unitsV x y))) fun x y h => by
  have _ := h
  have hn := f59_run (fun v os => some (v, os)) x y h
  exact contract_run (fn := (fb Tryd.f59).1) (c := (fb Tryd.f59).2) mixed (ready17 8) (glE17 8) Tryd.func59 (by kernel_rfl) rfl rfl (by kernel_rfl) hn

noncomputable def es18 : List (Entry Tryd.prog gls) := [f59e] ++ es17
noncomputable def E18 (n : Nat) : Env := interp fns (look tys) gls mvs (tabOf es18) 100000 n
theorem ready18 (n : Nat) : Ready Tryd.prog (E18 n) := ready_of mixed fnsAll tysOk rfsOk n
theorem glE18 (n : Nat) : (E18 n).gl = gls := by cases n <;> rfl
end Vm.S07

open Go Go.Proofs
namespace Vm.S07
noncomputable abbrev f60cuts : Cuts := look [(2, [0, 2, 3, 10]), (5, [0, 2, 3, 4, 10, 13])]
noncomputable abbrev f60t5 : List Item := itemsAt (fb Tryd.f60).2 5
noncomputable abbrev f60t2 : List Item := itemsAt (fb Tryd.f60).2 2
def f60s0 (n : Int) (n1 : Int) (n2 : Int) (x3 : Int × Int × Int × Int) : St := { fr := [(0, V.int IntKind.i64 n), (2, V.ref 0 0 0 0), (3, V.int IntKind.i64 n1), (10, V.int IntKind.i64 n2)], hp := [(0, Ob.var [V.int IntKind.i64 x3.fst, V.int IntKind.i64 x3.snd.fst, V.int IntKind.i64 x3.snd.snd.fst, V.int IntKind.i64 x3.snd.snd.snd])], nx := 1 }
def f60s1 (n : Int) (n4 : Int) (n2 : Int) (n5 : Int) (x6 : Int × Int × Int × Int) : St := { fr := [(0, V.int IntKind.i64 n), (2, V.ref 0 0 0 0), (3, V.int IntKind.i64 n4), (4, V.int IntKind.i64 n2), (10, V.int IntKind.i64 n2), (13, V.int IntKind.i64 n5)], hp := [(0, Ob.var [V.int IntKind.i64 x6.fst, V.int IntKind.i64 x6.snd.fst, V.int IntKind.i64 x6.snd.snd.fst, V.int IntKind.i64 x6.snd.snd.snd])], nx := 1 }
theorem f60_go {R : Type} (J : List Item → St → Option R) (kk : V → List Ob → Option R) (n : Int) :
  vseg ((E18 8)) f60cuts 0 J (vend ((E18 8)) 0 (fb Tryd.f60).1.results.toList false kk) 100000 true [.code (fb Tryd.f60).2] (start ([V.int IntKind.i64 n]) ([])) =
  J f60t2 (f60s0 (n) (0 : Int) (0 : Int) (((0 : Int), (0 : Int), (0 : Int), (0 : Int)))) := by kernel_rfl
theorem f60_0 {R : Type} (J : List Item → St → Option R) (kk : V → List Ob → Option R) (n : Int) (n1 : Int) (n2 : Int) (x3 : Int × Int × Int × Int) :
  vseg ((E18 8)) f60cuts 0 J (vend ((E18 8)) 0 (fb Tryd.f60).1.results.toList false kk) 100000 true f60t2 (f60s0 n n1 n2 x3) =
  (bif decide (n2 < (7 : Int)) then
    J f60t5 (f60s1 (n) (n1) (n2) (0 : Int) (x3))
  else kk (V.tuple [V.agg [V.int IntKind.i64 x3.fst, V.int IntKind.i64 x3.snd.fst, V.int IntKind.i64 x3.snd.snd.fst, V.int IntKind.i64 x3.snd.snd.snd], V.int IntKind.i64 n1]) ([])) := by kernel_rfl
theorem f60_1 {R : Type} (J : List Item → St → Option R) (kk : V → List Ob → Option R) (n : Int) (n4 : Int) (n2 : Int) (n5 : Int) (x6 : Int × Int × Int × Int) :
  vseg ((E18 8)) f60cuts 0 J (vend ((E18 8)) 0 (fb Tryd.f60).1.results.toList false kk) 100000 true f60t5 (f60s1 n n4 n2 n5 x6) =
  (bif decide (n5 < (3 : Int)) then
    (bif unitsG (Vl.len (n2, n5, Int.ofNat (0 : Nat), Int.ofNat (0 : Nat))).fst (Int.ofNat (0 : Nat), Int.ofNat (0 : Nat), Int.ofNat (0 : Nat), Int.ofNat (0 : Nat)) then
      (bif decide (n4 < unitsV (Vl.len (n2, n5, Int.ofNat (0 : Nat), Int.ofNat (0 : Nat))).fst (Int.ofNat (0 : Nat), Int.ofNat (0 : Nat), Int.ofNat (0 : Nat), Int.ofNat (0 : Nat))) then
        (bif decide (unitsV (Vl.len (n2, n5, Int.ofNat (0 : Nat), Int.ofNat (0 : Nat))).fst (Int.ofNat (0 : Nat), Int.ofNat (0 : Nat), Int.ofNat (0 : Nat), Int.ofNat (0 : Nat)) ≤ n) then
          J f60t5 (f60s1 (n) (unitsV (Vl.len (n2, n5, Int.ofNat (0 : Nat), Int.ofNat (0 : Nat))).fst (Int.ofNat (0 : Nat), Int.ofNat (0 : Nat), Int.ofNat (0 : Nat), Int.ofNat (0 : Nat))) (n2) (IntKind.i64.wrap (n5 + (1 : Int))) ((n2, n5, (0 : Int), (0 : Int))))
        else J f60t5 (f60s1 (n) (n4) (n2) (IntKind.i64.wrap (n5 + (1 : Int))) (x6)))
      else J f60t5 (f60s1 (n) (n4) (n2) (IntKind.i64.wrap (n5 + (1 : Int))) (x6)))
    else none)
  else J f60t2 (f60s0 (n) (n4) (IntKind.i64.wrap (n2 + (1 : Int))) (x6))) := by kernel_rfl

end Vm.S07

open Go Go.Proofs
namespace Vm.S07
theorem f60_in {R : Type} (kk : V → List Ob → Option R) (left : Int) (b : Nat) (hb : b < 7) (N : Nat) : ∀ (k d : Nat) (a : Vl × Int), k + d = 3 →
    vrun (E18 8) f60cuts 0 100000 (vend (E18 8) 0 (fb Tryd.f60).1.results.toList false kk) (N + k + 1) f60t5 (f60s1 left a.2 b d a.1) = vrun (E18 8) f60cuts 0 100000 (vend (E18 8) 0 (fb Tryd.f60).1.results.toList false kk) N f60t2 (f60s0 left (fillD left b k d a).2 ((b + 1 : Nat) : Int) (fillD left b k d a).1) := by
  intro k
  induction k with
  | zero =>
    intro d a hd
    rw [vrun_succ, f60_1, bif_neg (by exact decide_eq_false (by omega)), wrap_succ (by omega)]
    rfl
  | succ k ih =>
    intro d a hd
    have hg : unitsG (Vl.len ((b : Int), (d : Int), Int.ofNat 0, Int.ofNat 0)).1 (Int.ofNat 0, Int.ofNat 0, Int.ofNat 0, Int.ofNat 0) = true := units_ok b hb d (by omega)
    rw [show N + (k + 1) + 1 = (N + k + 1) + 1 by omega, vrun_succ, f60_1, bif_pos (by exact decide_eq_true (by omega)), wrap_succ (by omega), hg, cond_true]
    rw [show unitsV (Vl.len ((b : Int), (d : Int), Int.ofNat 0, Int.ofNat 0)).1 (Int.ofNat 0, Int.ofNat 0, Int.ofNat 0, Int.ofNat 0) = unitsP b d from rfl]
    simp only [fillD]
    rw [← ih (d + 1) (fillStep left a b d) (by omega)]
    unfold fillStep
    by_cases h1 : a.2 < unitsP b d
    · rw [bif_pos (decide_eq_true h1), if_pos h1]
      by_cases h2 : unitsP b d ≤ left
      · rw [bif_pos (decide_eq_true h2), if_pos h2]
      · rw [bif_neg (decide_eq_false h2), if_neg h2]
    · rw [bif_neg (decide_eq_false h1), if_neg h1]
theorem f60_out {R : Type} (kk : V → List Ob → Option R) (left : Int) : ∀ (k b : Nat) (a : Vl × Int), k + b = 7 →
    vrun (E18 8) f60cuts 0 100000 (vend (E18 8) 0 (fb Tryd.f60).1.results.toList false kk) (k * 5 + 1) f60t2 (f60s0 left a.2 b a.1) = kk (.tuple [enc true rVal (fillB left k b a).1, .int .i64 (fillB left k b a).2]) [] := by
  intro k
  induction k with
  | zero =>
    intro b a hb
    rw [vrun_succ, f60_0, bif_neg (by exact decide_eq_false (by omega))]
    rfl
  | succ k ih =>
    intro b a hb
    rw [show (k + 1) * 5 + 1 = (k * 5 + 1 + 3 + 1) + 1 by omega, vrun_succ, f60_0, bif_pos (by exact decide_eq_true (by omega))]
    refine (f60_in kk left b (by omega) (k * 5 + 1) 3 0 a rfl).trans ?_
    exact ih (b + 1) (fillD left b 3 0 a) (by omega)
theorem f60_run {R : Type} (kk : V → List Ob → Option R) (left : Int) :
    vrun (E18 8) f60cuts 0 100000 (vend (E18 8) 0 (fb Tryd.f60).1.results.toList false kk) 37 [.code (fb Tryd.f60).2] (start [enc false rI left] []) = kk (.tuple [enc true rVal (fillS left).1, .int .i64 (fillS left).2]) [] := by
  rw [vrun_succ]
  refine (f60_go _ kk left).trans ?_
  exact f60_out kk left 7 0 (zVl, 0) rfl
noncomputable def f60e : Entry Tryd.prog gls := .one 60 false rI (by intro h; cases h <;> rfl) (fun (x : Int) => (true, .tuple [enc true rVal (fillS x).1, .int .i64 (fillS x).2])) fun x h => by
  have hn := f60_run (fun v os => some (v, os)) x
  exact contract_run (fn := (fb Tryd.f60).1) (c := (fb Tryd.f60).2) mixed (ready18 8) (glE18 8) Tryd.func60 (by kernel_rfl) rfl rfl (by kernel_rfl) hn
noncomputable def es19 : List (Entry Tryd.prog gls) := [f60e] ++ es18
noncomputable def E19 (n : Nat) : Env := interp fns (look tys) gls mvs (tabOf es19) 100000 n
theorem ready19 (n : Nat) : Ready Tryd.prog (E19 n) := ready_of mixed fnsAll tysOk rfsOk n
theorem glE19 (n : Nat) : (E19 n).gl = gls := by cases n <;> rfl
end Vm.S07

open Go Go.Proofs
namespace Vm.S07
noncomputable abbrev f38cuts : Cuts := look [(4, [1, 24, 25]), (8, [1, 5, 6, 7, 24, 25])]
noncomputable abbrev f38t8 : List Item := itemsAt (fb Tryd.f38).2 8
noncomputable abbrev f38t4 : List Item := itemsAt (fb Tryd.f38).2 4
def f38s0 (n1 : Int) (x2 : Int × Int) : St := { fr := [(1, V.ref 0 0 0 0), (24, V.agg [V.int IntKind.i64 (0 : Int), V.int IntKind.i64 (0 : Int), V.int IntKind.i64 (0 : Int), V.int IntKind.i64 (0 : Int), V.int IntKind.i64 (0 : Int), V.int IntKind.i64 (0 : Int), V.int IntKind.i64 (3 : Int), V.int IntKind.i64 (2 : Int), V.int IntKind.i64 (0 : Int), V.int IntKind.i64 (0 : Int), V.int IntKind.i64 (5 : Int), V.int IntKind.i64 (4 : Int), V.int IntKind.i64 (0 : Int), V.int IntKind.i64 (0 : Int), V.int IntKind.i64 (7 : Int), V.int IntKind.i64 (4 : Int)]), (25, V.int IntKind.i64 n1)], hp := [(0, Ob.var [V.int IntKind.i64 x2.fst, V.int IntKind.i64 x2.snd])], nx := 1 }
def f38s1 (n4 : Int) (n1 : Int) (x5 : Int × Int) (x6 : Int × Int × Int × Int) : St := { fr := [(1, V.ref 0 0 0 0), (5, V.ref 1 0 0 0), (6, V.int IntKind.i64 n4), (7, V.nilsl), (24, V.agg [V.int IntKind.i64 (0 : Int), V.int IntKind.i64 (0 : Int), V.int IntKind.i64 (0 : Int), V.int IntKind.i64 (0 : Int), V.int IntKind.i64 (0 : Int), V.int IntKind.i64 (0 : Int), V.int IntKind.i64 (3 : Int), V.int IntKind.i64 (2 : Int), V.int IntKind.i64 (0 : Int), V.int IntKind.i64 (0 : Int), V.int IntKind.i64 (5 : Int), V.int IntKind.i64 (4 : Int), V.int IntKind.i64 (0 : Int), V.int IntKind.i64 (0 : Int), V.int IntKind.i64 (7 : Int), V.int IntKind.i64 (4 : Int)]), (25, V.int IntKind.i64 n1)], hp := [(0, Ob.var [V.int IntKind.i64 x5.fst, V.int IntKind.i64 x5.snd]), (1, Ob.var [V.int IntKind.i64 x6.fst, V.int IntKind.i64 x6.snd.fst, V.int IntKind.i64 x6.snd.snd.fst, V.int IntKind.i64 x6.snd.snd.snd])], nx := 2 }
def f38s2 (n7 : Int) (n1 : Int) (x8 : Int × Int) (x9 : Int × Int × Int × Int) (l10 : List (Int × Int × Int × Int)) : St := { fr := [(1, V.ref 0 0 0 0), (5, V.ref 1 0 0 0), (6, V.int IntKind.i64 n7), (7, V.own 2), (24, V.agg [V.int IntKind.i64 (0 : Int), V.int IntKind.i64 (0 : Int), V.int IntKind.i64 (0 : Int), V.int IntKind.i64 (0 : Int), V.int IntKind.i64 (0 : Int), V.int IntKind.i64 (0 : Int), V.int IntKind.i64 (3 : Int), V.int IntKind.i64 (2 : Int), V.int IntKind.i64 (0 : Int), V.int IntKind.i64 (0 : Int), V.int IntKind.i64 (5 : Int), V.int IntKind.i64 (4 : Int), V.int IntKind.i64 (0 : Int), V.int IntKind.i64 (0 : Int), V.int IntKind.i64 (7 : Int), V.int IntKind.i64 (4 : Int)]), (25, V.int IntKind.i64 n1)], hp := [(0, Ob.var [V.int IntKind.i64 x8.fst, V.int IntKind.i64 x8.snd]), (1, Ob.var [V.int IntKind.i64 x9.fst, V.int IntKind.i64 x9.snd.fst, V.int IntKind.i64 x9.snd.snd.fst, V.int IntKind.i64 x9.snd.snd.snd]), (2, Ob.arr (Ks.cons (K.int IntKind.i64) (Ks.cons (K.int IntKind.i64) (Ks.cons (K.int IntKind.i64) (Ks.cons (K.int IntKind.i64) Ks.nil)))) l10 false)], nx := 3 }
theorem f38_go {R : Type} (J : List Item → St → Option R) (kk : V → List Ob → Option R) (x : Int × Int) :
  vseg ((E19 8)) f38cuts 0 J (vend ((E19 8)) 0 (fb Tryd.f38).1.results.toList false kk) 100000 true [.code (fb Tryd.f38).2] (start ([enc true rIv x]) ([])) =
  (bif Rt.i64 x then
    (bif !Rt.right x then
      kk (V.tuple [V.nilsl, V.int IntKind.i64 (41 : Int)]) ([])
    else (bif decide (x.fst ≤ (0 : Int)) then
        kk (V.tuple [V.nilsl, V.int IntKind.i64 (41 : Int)]) ([])
      else (bif Rt.i64 x && Rt.i64 ((64 : Int), (1 : Int)) then
          (bif decide ((0 : Int) < Rt.cmp x ((64 : Int), (1 : Int))) then
            kk (V.tuple [V.nilsl, V.int IntKind.i64 (41 : Int)]) ([])
          else J f38t4 (f38s0 (0 : Int) (x)))
        else none)))
  else none) := by kernel_rfl
theorem f38_0 {R : Type} (J : List Item → St → Option R) (kk : V → List Ob → Option R) (n1 : Int) (x2 : Int × Int) :
  vseg ((E19 8)) f38cuts 0 J (vend ((E19 8)) 0 (fb Tryd.f38).1.results.toList false kk) 100000 true f38t4 (f38s0 n1 x2) =
  (bif decide (n1 < (4 : Int)) then
    (match idx [((0 : Int), (0 : Int), (0 : Int), (0 : Int)), ((0 : Int), (0 : Int), (3 : Int), (2 : Int)), ((0 : Int), (0 : Int), (5 : Int), (4 : Int)), ((0 : Int), (0 : Int), (7 : Int), (4 : Int))] n1 with
      | some y3 => (bif unitsG x2 y3 then
        J f38t8 (f38s1 (unitsV x2 y3) (n1) (x2) (y3))
      else none)
      | none => none)
  else kk (V.tuple [V.nilsl, V.int IntKind.i64 (41 : Int)]) ([])) := by kernel_rfl
theorem f38_1 {R : Type} (J : List Item → St → Option R) (kk : V → List Ob → Option R) (n4 : Int) (n1 : Int) (x5 : Int × Int) (x6 : Int × Int × Int × Int) :
  vseg ((E19 8)) f38cuts 0 J (vend ((E19 8)) 0 (fb Tryd.f38).1.results.toList false kk) 100000 true f38t8 (f38s1 n4 n1 x5 x6) =
  (bif decide ((0 : Int) < n4) then
    J f38t8 (f38s2 (IntKind.i64.wrap (n4 - (fillS n4).snd)) (n1) (x5) (x6) ((List.replicate (1 : Nat) (Int.ofNat (0 : Nat), Int.ofNat (0 : Nat), Int.ofNat (0 : Nat), Int.ofNat (0 : Nat))).set (0 : Nat) ((fillS n4).fst.fst, (fillS n4).fst.snd.fst, x6.snd.snd)))
  else J f38t4 (f38s0 (IntKind.i64.wrap (n1 + (1 : Int))) (x5))) := by kernel_rfl
theorem f38_2 {R : Type} (J : List Item → St → Option R) (kk : V → List Ob → Option R) (n7 : Int) (n1 : Int) (x8 : Int × Int) (x9 : Int × Int × Int × Int) (l10 : List (Int × Int × Int × Int)) :
  vseg ((E19 8)) f38cuts 0 J (vend ((E19 8)) 0 (fb Tryd.f38).1.results.toList false kk) 100000 true f38t8 (f38s2 n7 n1 x8 x9 l10) =
  (bif decide ((0 : Int) < n7) then
    (bif decide ((l10.length + ((List.replicate (1 : Nat) (Int.ofNat (0 : Nat), Int.ofNat (0 : Nat), Int.ofNat (0 : Nat), Int.ofNat (0 : Nat))).set (0 : Nat) ((fillS n7).fst.fst, (fillS n7).fst.snd.fst, x9.snd.snd)).length) * 32 ≤ bytesMost) then
      J f38t8 (f38s2 (IntKind.i64.wrap (n7 - (fillS n7).snd)) (n1) (x8) (x9) (l10 ++ (List.replicate (1 : Nat) (Int.ofNat (0 : Nat), Int.ofNat (0 : Nat), Int.ofNat (0 : Nat), Int.ofNat (0 : Nat))).set (0 : Nat) ((fillS n7).fst.fst, (fillS n7).fst.snd.fst, x9.snd.snd)))
    else none)
  else (bif decide ((0 : Int) < (↑l10.length : Int)) then
      kk (V.tuple [V.sl (Ks.cons (K.int IntKind.i64) (Ks.cons (K.int IntKind.i64) (Ks.cons (K.int IntKind.i64) (Ks.cons (K.int IntKind.i64) Ks.nil)))) l10, V.int IntKind.i64 (0 : Int)]) ([])
    else J f38t4 (f38s0 (IntKind.i64.wrap (n1 + (1 : Int))) (x8)))) := by kernel_rfl

end Vm.S07

open Go Go.Proofs
namespace Vm.S07
noncomputable abbrev f38F {R : Type} (kk : V → List Ob → Option R) (n : Nat) : List Item → St → Option R := vrun (E19 8) f38cuts 0 100000 (vend (E19 8) 0 (fb Tryd.f38).1.results.toList false kk) n
abbrev vlN (x : List Vl × Int) : V := .tuple [if x.2 = 0 then .sl rVal x.1 else .nilsl, .int .i64 x.2]
theorem f38_in2 {R : Type} (kk : V → List Ob → Option R) (i : Int) (x : Int × Int) (k : Vl) : ∀ (n m : Nat) (left : Int) (acc res : List Vl), splitK k n left acc = some res → acc.length + n ≤ 300 → acc ≠ [] → n ≤ m →
    f38F kk m f38t8 (f38s2 left i x k acc) = kk (.tuple [.sl rVal res, .int .i64 0]) [] := by
  intro n
  induction n with
  | zero => intro m left acc res h; cases h
  | succ n ih =>
    intro m left acc res h hl hne hm
    obtain ⟨m, rfl⟩ : ∃ m', m = m' + 1 := ⟨m - 1, by omega⟩
    simp only [splitK] at h
    rw [f38F, vrun_succ, f38_2]
    by_cases h0 : 0 < left
    · rw [if_pos h0] at h
      rw [bif_pos (decide_eq_true h0), bif_pos (by
        refine decide_eq_true ?_
        rw [List.length_set, List.length_replicate]
        simp only [bytesMost]; omega)]
      exact ih m _ _ _ h (by simp; omega) (by simp) (by omega)
    · rw [if_neg h0] at h
      cases h
      have : 0 < acc.length := List.length_pos_iff.2 hne
      rw [bif_neg (decide_eq_false h0), bif_pos (by exact decide_eq_true (by omega))]
theorem f38_out {R : Type} (kk : V → List Ob → Option R) (x : Int × Int) : ∀ (d i m : Nat) (res : List Vl × Int), i + d = 4 → splitL x (glKinds.drop i) = some res → d * 302 + 1 ≤ m →
    f38F kk m f38t4 (f38s0 i x) = kk (vlN res) [] := by
  intro d
  induction d with
  | zero =>
    intro i m res hi h hm
    obtain ⟨m, rfl⟩ : ∃ m', m = m' + 1 := ⟨m - 1, by omega⟩
    rw [List.drop_eq_nil_of_le (by simp only [glKinds, List.length_cons, List.length_nil]; omega)] at h
    cases h
    rw [f38F, vrun_succ, f38_0, bif_neg (by exact decide_eq_false (by omega))]
    rfl
  | succ d ih =>
    intro i m res hi h hm
    obtain ⟨m, rfl⟩ : ∃ m', m = m' + 1 := ⟨m - 1, by omega⟩
    have hlt : i < glKinds.length := by simp only [glKinds, List.length_cons, List.length_nil]; omega
    rw [List.drop_eq_getElem_cons hlt, splitL] at h
    rw [f38F, vrun_succ, f38_0, bif_pos (by exact decide_eq_true (by omega)), show ([((0 : Int), (0 : Int), (0 : Int), (0 : Int)), ((0 : Int), (0 : Int), (3 : Int), (2 : Int)), ((0 : Int), (0 : Int), (5 : Int), (4 : Int)), ((0 : Int), (0 : Int), (7 : Int), (4 : Int))] : List Vl) = glKinds from rfl, idx_nat, List.getElem?_eq_getElem hlt]
    dsimp only
    by_cases hg : unitsG x glKinds[i] = true
    · rw [if_pos hg] at h
      rw [hg, cond_true]
      obtain ⟨m, rfl⟩ : ∃ m', m = m' + 1 := ⟨m - 1, by omega⟩
      rw [vrun_succ, f38_1]
      have hk : ∀ res', splitK glKinds[i] 300 (unitsV x glKinds[i]) [] = some res' → _ := fun res' e => e
      cases he : splitK glKinds[i] 300 (unitsV x glKinds[i]) [] with
      | none => rw [he] at h; cases h
      | some l =>
        rw [he] at h
        rw [show (300 : Nat) = 299 + 1 from rfl, splitK] at he
        by_cases h0 : 0 < unitsV x glKinds[i]
        · rw [if_pos h0] at he
          rw [bif_pos (decide_eq_true h0)]
          have hx := f38_in2 kk i x glKinds[i] 299 m _ _ _ he (by simp) (by simp) (by omega)
          obtain ⟨l', hl'⟩ := splitK_grow he
          rw [List.nil_append] at hl'
          rw [hl'] at h
          simp only [List.singleton_append] at h
          cases h
          rw [hl'] at hx
          exact hx
        · rw [if_neg h0] at he
          cases he
          rw [bif_neg (decide_eq_false h0), wrap_succ (by omega)]
          exact ih (i + 1) m res (by omega) h (by omega)
    · rw [if_neg hg] at h; cases h
theorem f38_run {R : Type} (kk : V → List Ob → Option R) (x : Int × Int) (res : List Vl × Int) (h : splitS x = some res) (hx : Rt.i64 x = true) :
    f38F kk 3000 [.code (fb Tryd.f38).2] (start [enc true rIv x] []) = kk (vlN res) [] := by
  rw [f38F, vrun_succ]
  refine (f38_go _ kk x).trans ?_
  rw [hx, cond_true]
  unfold splitS at h
  cases hr : Rt.right x with
  | false =>
    rw [hr, if_neg (by decide)] at h
    cases h; rfl
  | true =>
    rw [hr, if_pos rfl] at h
    rw [Bool.not_true, cond_false]
    by_cases h1 : x.1 ≤ 0
    · rw [if_pos h1] at h
      rw [bif_pos (decide_eq_true h1)]
      cases h; rfl
    · rw [if_neg h1] at h
      rw [bif_neg (decide_eq_false h1), Bool.true_and, show Rt.i64 ((64 : Int), (1 : Int)) = true from rfl, cond_true]
      by_cases h2 : 0 < Rt.cmp x (64, 1)
      · rw [if_pos h2] at h
        rw [bif_pos (decide_eq_true h2)]
        cases h; rfl
      · rw [if_neg h2] at h
        rw [bif_neg (decide_eq_false h2)]
        exact f38_out kk x 4 0 2999 res rfl h (by omega)
theorem splitL_nil {x : Int × Int} : ∀ {ks : List Vl} {res : List Vl × Int}, splitL x ks = some res → res.2 ≠ 0 → res.1 = []
  | [], res, h, _ => by cases h; rfl
  | k :: ks, res, h, h2 => by
    simp only [splitL] at h
    split at h
    · split at h
      · cases h
      · exact splitL_nil h h2
      · cases h; exact absurd rfl h2
    · cases h
theorem splitS_nil {x : Int × Int} {res : List Vl × Int} (h : splitS x = some res) (h2 : res.2 ≠ 0) : res.1 = [] := by
  unfold splitS at h
  split at h
  · split at h
    · cases h; rfl
    · split at h
      · cases h; rfl
      · exact splitL_nil h h2
  · cases h; rfl
theorem vlN_canon (x : List Vl × Int) (h : x.2 ≠ 0 → x.1 = []) : canon2 false (.cons (.sl rVal) .nil) (vlN x) = some (x.1, .int .i64 x.2) := by
  obtain ⟨a, b⟩ := x
  by_cases hb : b = 0
  · subst hb; rfl
  · have := h hb
    dsimp only at this
    subst this
    simp only [vlN, if_neg hb]
    rfl
noncomputable def f38e : Entry Tryd.prog gls := .one 38 true rIv (by intro h; cases h) (fun (x : Int × Int) => ((splitS x).isSome && Rt.i64 x, .tuple [.sl rVal ((splitS x).getD ([], 41)).1, .int .i64 ((splitS x).getD ([], 41)).2])) fun x h => by
  simp only [Bool.and_eq_true] at h
  cases he : splitS x with
  | none => rw [he] at h; exact absurd h.1 (by decide)
  | some res =>
    have hn := f38_run (fun v os => some (v, os)) x res he h.2
    exact Contract.canon2 (a := false) (contract_run (fn := (fb Tryd.f38).1) (c := (fb Tryd.f38).2) mixed (ready19 8) (glE19 8) Tryd.func38 (by kernel_rfl) rfl rfl (by kernel_rfl) hn) (by intro _; rfl) (vlN_canon _ (splitS_nil he))
noncomputable def es20 : List (Entry Tryd.prog gls) := [f38e] ++ es19
noncomputable def E20 (n : Nat) : Env := interp fns (look tys) gls mvs (tabOf es20) 100000 n
theorem ready20 (n : Nat) : Ready Tryd.prog (E20 n) := ready_of mixed fnsAll tysOk rfsOk n
theorem glE20 (n : Nat) : (E20 n).gl = gls := by cases n <;> rfl
end Vm.S07

open Go Go.Proofs
namespace Vm.S07
noncomputable abbrev f20cuts : Cuts := look [(7, [2, 8, 24, 25, 26])]
noncomputable abbrev f20t7 : List Item := itemsAt (fb Tryd.f20).2 7
def f20s0 (m : Int × Int × List Int) (n1 : Int) : St := { fr := [(2, V.ref 0 0 0 0), (8, V.ref 1 0 0 0), (24, V.sl rVal ((splitS (Rt.of m.fst m.snd.fst).fst).getD ([], (41 : Int))).fst), (25, V.int IntKind.i64 (↑((splitS (Rt.of m.fst m.snd.fst).fst).getD ([], (41 : Int))).fst.length : Int)), (26, V.int IntKind.i64 n1)], hp := [(0, Ob.var [V.nilsl]), (1, Ob.var [V.nilsl])], nx := 2 }
def f20s1 (m : Int × Int × List Int) (n3 : Int) (l4 : List (Int × List (Int × Int × Int) × List Bool × Int × Int × Int × Int × List Int × List UInt8)) : St := { fr := [(2, V.ref 0 0 0 0), (8, V.ref 1 0 0 0), (24, V.sl rVal ((splitS (Rt.of m.fst m.snd.fst).fst).getD ([], (41 : Int))).fst), (25, V.int IntKind.i64 (↑((splitS (Rt.of m.fst m.snd.fst).fst).getD ([], (41 : Int))).fst.length : Int)), (26, V.int IntKind.i64 n3)], hp := [(0, Ob.var [V.nilsl]), (1, Ob.var [V.own 2]), (2, Ob.arr (Ks.cons (K.int IntKind.i64) (Ks.cons (K.sl (Ks.cons (K.int IntKind.i64) (Ks.cons (K.int IntKind.i64) (Ks.cons (K.int IntKind.i64) Ks.nil)))) (Ks.cons (K.sl (Ks.cons K.bool Ks.nil)) (Ks.cons (K.int IntKind.i64) (Ks.cons (K.int IntKind.i64) (Ks.cons (K.int IntKind.i64) (Ks.cons (K.int IntKind.i64) (Ks.cons (K.sl (Ks.cons (K.int IntKind.i64) Ks.nil)) (Ks.cons K.str Ks.nil))))))))) l4 false)], nx := 3 }
theorem f20_go {R : Type} (J : List Item → St → Option R) (kk : V → List Ob → Option R) (m : Int × Int × List Int) :
  vseg ((E20 8)) f20cuts 0 J (vend ((E20 8)) 0 (fb Tryd.f20).1.results.toList false kk) 100000 true [.code (fb Tryd.f20).2] (start ([enc true rMeter m]) ([])) =
  (bif decide (m.snd.snd.length < (4611686018427387904 : Nat)) then
    (bif !Me.right m then
      kk (V.tuple [V.agg [V.nilsl], V.int IntKind.i64 (50 : Int)]) ([])
    else (bif i64B m.fst && i64B m.snd.fst then
        (bif !decide ((Rt.of m.fst m.snd.fst).snd = (0 : Int)) then
          kk (V.tuple [V.agg [V.nilsl], V.int IntKind.i64 (50 : Int)]) ([])
        else (bif (splitS (Rt.of m.fst m.snd.fst).fst).isSome && Rt.i64 (Rt.of m.fst m.snd.fst).fst then
            J f20t7 (f20s0 (m) (0 : Int))
          else none))
      else none))
  else none) := by kernel_rfl
theorem f20_0 {R : Type} (J : List Item → St → Option R) (kk : V → List Ob → Option R) (m : Int × Int × List Int) (n1 : Int) :
  vseg ((E20 8)) f20cuts 0 J (vend ((E20 8)) 0 (fb Tryd.f20).1.results.toList false kk) 100000 true f20t7 (f20s0 m n1) =
  (bif decide (n1 < (↑((splitS (Rt.of m.fst m.snd.fst).fst).getD ([], (41 : Int))).fst.length : Int)) then
    (match idx ((splitS (Rt.of m.fst m.snd.fst).fst).getD ([], (41 : Int))).fst n1 with
      | some y2 => J f20t7 (f20s1 (m) (IntKind.i64.wrap (n1 + (1 : Int))) ([((0 : Int), [], [], y2.fst, y2.snd.fst, y2.snd.snd.fst, y2.snd.snd.snd, [], [])]))
      | none => none)
  else kk (V.tuple [V.agg [V.nilsl], V.int IntKind.i64 (0 : Int)]) ([])) := by kernel_rfl
theorem f20_1 {R : Type} (J : List Item → St → Option R) (kk : V → List Ob → Option R) (m : Int × Int × List Int) (n3 : Int) (l4 : List (Int × List (Int × Int × Int) × List Bool × Int × Int × Int × Int × List Int × List UInt8)) :
  vseg ((E20 8)) f20cuts 0 J (vend ((E20 8)) 0 (fb Tryd.f20).1.results.toList false kk) 100000 true f20t7 (f20s1 m n3 l4) =
  (bif decide (n3 < (↑((splitS (Rt.of m.fst m.snd.fst).fst).getD ([], (41 : Int))).fst.length : Int)) then
    (match idx ((splitS (Rt.of m.fst m.snd.fst).fst).getD ([], (41 : Int))).fst n3 with
      | some y5 => (bif decide ((l4.length + 1) * 128 ≤ bytesMost) then
        J f20t7 (f20s1 (m) (IntKind.i64.wrap (n3 + (1 : Int))) (l4 ++ [((0 : Int), [], [], y5.fst, y5.snd.fst, y5.snd.snd.fst, y5.snd.snd.snd, [], [])]))
      else none)
      | none => none)
  else kk (V.tuple [V.agg [V.sl (Ks.cons (K.int IntKind.i64) (Ks.cons (K.sl (Ks.cons (K.int IntKind.i64) (Ks.cons (K.int IntKind.i64) (Ks.cons (K.int IntKind.i64) Ks.nil)))) (Ks.cons (K.sl (Ks.cons K.bool Ks.nil)) (Ks.cons (K.int IntKind.i64) (Ks.cons (K.int IntKind.i64) (Ks.cons (K.int IntKind.i64) (Ks.cons (K.int IntKind.i64) (Ks.cons (K.sl (Ks.cons (K.int IntKind.i64) Ks.nil)) (Ks.cons K.str Ks.nil))))))))) l4], V.int IntKind.i64 (0 : Int)]) ([])) := by kernel_rfl

end Vm.S07

open Go Go.Proofs
namespace Vm.S07
abbrev voN (l : Vo) : V := if l = [] then .nilsl else .sl rEvent l
theorem f20_loop {R : Type} (kk : V → List Ob → Option R) (m : Me) (vs : List Vl) (hvs : vs = ((splitS (Rt.of m.1 m.2.1).1).getD ([], 41)).1) (hl : vs.length ≤ 300) : ∀ (d i : Nat) (acc : Vo), i + d = vs.length → acc.length = i → acc ≠ [] →
    vrun (E20 8) f20cuts 0 100000 (vend (E20 8) 0 (fb Tryd.f20).1.results.toList false kk) (d + 1) f20t7 (f20s1 m i acc) = kk (.tuple [.agg [.sl rEvent (acc ++ (vs.drop i).map restEv)], .int .i64 0]) [] := by
  intro d
  induction d with
  | zero =>
    intro i acc hi ha hne
    rw [vrun_succ, f20_1, ← hvs, bif_neg (by exact decide_eq_false (by omega)), List.drop_eq_nil_of_le (by omega)]
    rw [List.map_nil, List.append_nil]
  | succ d ih =>
    intro i acc hi ha hne
    have hlt : i < vs.length := by omega
    rw [vrun_succ, f20_1, ← hvs, bif_pos (by exact decide_eq_true (by omega)), wrap_succ (by omega), idx_nat, List.getElem?_eq_getElem hlt]
    dsimp only
    rw [bif_pos (by exact decide_eq_true (by simp only [bytesMost]; omega))]
    refine (ih (i + 1) _ (by omega) (by simp [ha]) (by simp)).trans ?_
    rw [List.drop_eq_getElem_cons hlt, List.map_cons, List.append_assoc]
    rfl
theorem f20_run {R : Type} (kk : V → List Ob → Option R) (m : Me) (h : Me.restsG m = true) :
    ∃ n, vrun (E20 8) f20cuts 0 100000 (vend (E20 8) 0 (fb Tryd.f20).1.results.toList false kk) n [.code (fb Tryd.f20).2] (start [enc true rMeter m] []) = kk (.tuple [.agg [voN (Me.rests m).1], .int .i64 (Me.rests m).2]) [] := by
  unfold Me.restsG at h
  rw [Bool.and_eq_true] at h
  unfold Me.rests
  cases hr : Me.right m with
  | false =>
    refine ⟨1, ?_⟩
    rw [vrun_succ]
    refine (f20_go _ kk m).trans ?_
    rw [h.1, hr, if_neg (by decide)]
    rfl
  | true =>
    have hb := Me.right_i64 hr
    rw [hr, if_pos rfl] at h
    rw [if_pos rfl]
    by_cases h1 : (Rt.of m.1 m.2.1).2 = 0
    · rw [if_pos h1]
      cases he : splitS (Rt.of m.1 m.2.1).1 with
      | none => rw [he] at h; exact absurd h.2 (by decide)
      | some res =>
        obtain ⟨vs, hvs⟩ : ∃ vs, vs = ((splitS (Rt.of m.1 m.2.1).1).getD ([], 41)).1 := ⟨_, rfl⟩
        have hl : vs.length ≤ 300 := by rw [hvs, he]; exact splitS_len he
        have hgo : ∀ n, vrun (E20 8) f20cuts 0 100000 (vend (E20 8) 0 (fb Tryd.f20).1.results.toList false kk) (n + 1) [.code (fb Tryd.f20).2] (start [enc true rMeter m] []) = vrun (E20 8) f20cuts 0 100000 (vend (E20 8) 0 (fb Tryd.f20).1.results.toList false kk) n f20t7 (f20s0 m 0) := by
          intro n
          rw [vrun_succ]
          refine (f20_go _ kk m).trans ?_
          rw [h.1, hr, i64B_of (n := m.1) (by omega) (by omega), i64B_of (n := m.2.1) (by omega) (by omega), decide_eq_true h1, h.2, Rt.of_i64]
          rfl
        rw [← he, ← hvs]
        match hv : vs with
        | [] =>
          refine ⟨2, ?_⟩
          rw [hgo, vrun_succ, f20_0, ← hvs, bif_neg (by exact decide_eq_false (by simp))]
          rfl
        | y :: r =>
          refine ⟨r.length + 1 + 1 + 1, ?_⟩
          rw [hgo, vrun_succ, f20_0, ← hvs, bif_pos (by exact decide_eq_true (by simp only [List.length_cons]; omega)), show idx (y :: r) (0 : Int) = some y from rfl]
          dsimp only
          refine (f20_loop kk m (y :: r) hvs hl r.length 1 [restEv y] (by simp only [List.length_cons]; omega) rfl (by simp)).trans ?_
          rfl
    · refine ⟨1, ?_⟩
      rw [vrun_succ]
      refine (f20_go _ kk m).trans ?_
      rw [h.1, hr, i64B_of (n := m.1) (by omega) (by omega), i64B_of (n := m.2.1) (by omega) (by omega), decide_eq_false h1, if_neg h1]
      rfl
theorem voN_canon (x : Vo) (k : Int) : canon2 true rVoice (.tuple [.agg [voN x], .int .i64 k]) = some (x, .int .i64 k) := by
  cases x with
  | nil => rfl
  | cons a l => simp only [voN, if_neg (List.cons_ne_nil a l)]; rfl
noncomputable def f20e : Entry Tryd.prog gls := .one 20 true rMeter (by intro h; cases h) (fun (x : Me) => (Me.restsG x, .tuple [.agg [.sl rEvent (Me.rests x).1], .int .i64 (Me.rests x).2])) fun x h => by
  obtain ⟨n, hn⟩ := f20_run (fun v os => some (v, os)) x h
  exact Contract.canon2 (a := true) (contract_run (fn := (fb Tryd.f20).1) (c := (fb Tryd.f20).2) mixed (ready20 8) (glE20 8) Tryd.func20 (by kernel_rfl) rfl rfl (by kernel_rfl) hn) (by intro h; cases h) (voN_canon _ _)
noncomputable def es21 : List (Entry Tryd.prog gls) := [f20e] ++ es20
noncomputable def E21 (n : Nat) : Env := interp fns (look tys) gls mvs (tabOf es21) 100000 n
theorem ready21 (n : Nat) : Ready Tryd.prog (E21 n) := ready_of mixed fnsAll tysOk rfsOk n
theorem glE21 (n : Nat) : (E21 n).gl = gls := by cases n <;> rfl
end Vm.S07

