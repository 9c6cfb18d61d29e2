/- The chapter's examples, as a run of the value machine. -/
import Derived.Test.YtgkanaehhjkieaaDoorLawF
import Derived.Test.YtgkanaehhjkieaaDoorVmE
import Derived.KernelRfl
import Derived.Test.YtgkanaehhjkieaaDoorWords
set_option maxRecDepth 100000
open Go Go.Proofs
namespace Vm.S07
noncomputable abbrev f10cuts : Cuts := fun _ => none
theorem f10_go {R : Type} (J : List Item → St → Option R) (kk : V → List Ob → Option R) :
  vseg ((E24 8)) f10cuts 0 J (vend ((E24 8)) 0 (fb Tryd.f10).1.results.toList false kk) 100000 true [.code (fb Tryd.f10).2] (start ([]) ([])) =
  kk (V.bool true) ([]) := by kernel_rfl

noncomputable abbrev f19cuts : Cuts := fun _ => none
theorem f19_go {R : Type} (J : List Item → St → Option R) (kk : V → List Ob → Option R) (a : Int) (b : Int) :
  vseg ((E24 8)) f19cuts 0 J (vend ((E24 8)) 0 (fb Tryd.f19).1.results.toList false kk) 100000 true [.code (fb Tryd.f19).2] (start ([V.int IntKind.i64 a, V.int IntKind.i64 b]) ([])) =
  (bif decide (a < (0 : Int)) then
    (bif decide (b = (0 : Int)) then
      none
    else kk (V.int IntKind.i64 ((IntKind.i64.wrap ((0 : Int) - IntKind.i64.wrap (a + (1 : Int)))).tmod b)) ([]))
  else (bif decide (b = (0 : Int)) then
      none
    else kk (V.int IntKind.i64 (a.tmod b)) ([]))) := by kernel_rfl

end Vm.S07

open Go Go.Proofs
namespace Vm.S07
theorem f10_run {R : Type} (kk : V → List Ob → Option R) :
    vrun (E24 8) f10cuts 0 100000 (vend (E24 8) 0 (fb Tryd.f10).1.results.toList false kk) 1 [.code (fb Tryd.f10).2] (start [] []) = kk (.bool true) [] := by
  rw [vrun_succ]
  exact f10_go _ kk
theorem f19_run {R : Type} (kk : V → List Ob → Option R) (a b : Int) (h : decide (¬ b = 0) = true) :
    vrun (E24 8) f19cuts 0 100000 (vend (E24 8) 0 (fb Tryd.f19).1.results.toList false kk) 1 [.code (fb Tryd.f19).2] (start [enc false rI a, enc false rI b] []) = kk (.int .i64 (pickI a b)) [] := by
  have h := of_decide_eq_true h
  rw [vrun_succ]
  refine (f19_go _ kk a b).trans ?_
  unfold pickI
  by_cases h1 : a < 0
  · rw [bif_pos (decide_eq_true h1), if_pos h1, bif_neg (decide_eq_false h)]
  · rw [bif_neg (decide_eq_false h1), if_neg h1, bif_neg (decide_eq_false h)]
noncomputable def f19e : Entry Tryd.prog gls := .two 19 false rI false rI (by intro h; cases h <;> rfl) (by intro h; cases h <;> rfl) (fun (x : Int) (y : Int) => (decide (¬ y = 0), .int .i64 (pickI x y))) fun x y h => by
  have _ := h
  have hn := f19_run (fun v os => some (v, os)) x y h
  exact contract_run (fn := (fb Tryd.f19).1) (c := (fb Tryd.f19).2) mixed (ready24 8) (glE24 8) Tryd.func19 (by kernel_rfl) rfl rfl (by kernel_rfl) hn

noncomputable def f10e : Entry Tryd.prog gls where
  f := 10
  g := fun args os => match args, os with
    | [], [] => some (true, .bool true, [])
    | _, _ => none
  says := fun args os c v os' h hc => by
    split at h
    · cases h
      have hn := f10_run (fun v os => some (v, os))
      exact contract_run (fn := (fb Tryd.f10).1) (c := (fb Tryd.f10).2) mixed (ready24 8) (glE24 8) Tryd.func10 (by kernel_rfl) rfl rfl (by kernel_rfl) hn
    · cases h
noncomputable def es25 : List (Entry Tryd.prog gls) := [f10e, f19e] ++ es24
noncomputable def E25 (n : Nat) : Env := interp fns (look tys) gls mvs (tabOf es25) 100000 n
theorem ready25 (n : Nat) : Ready Tryd.prog (E25 n) := ready_of mixed fnsAll tysOk rfsOk n
theorem glE25 (n : Nat) : (E25 n).gl = gls := by cases n <;> rfl
end Vm.S07

