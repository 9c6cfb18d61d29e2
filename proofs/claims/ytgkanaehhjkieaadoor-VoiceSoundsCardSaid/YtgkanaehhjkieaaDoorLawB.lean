/- Values, words and pitches, as runs of the value machine. -/
import Derived.Test.YtgkanaehhjkieaaDoorEnv
import Derived.Test.YtgkanaehhjkieaaDoorVmE
import Derived.KernelRfl
import Derived.Test.YtgkanaehhjkieaaDoorWords
set_option maxRecDepth 100000
open Go Go.Proofs
namespace Vm.S07
noncomputable abbrev f43cuts : Cuts := look [(2, [1, 3]), (3, [1, 3, 4])]
noncomputable abbrev f43t3 : List Item := itemsAt (fb Tryd.f43).2 3
noncomputable abbrev f43t2 : List Item := itemsAt (fb Tryd.f43).2 2
def f43s0 (b1 : Bool) (x2 : Int × Int × Int × Int) : St := { fr := [(1, V.ref 0 0 0 0), (3, V.bool b1)], hp := [(0, Ob.var [V.int IntKind.i64 x2.fst, V.int IntKind.i64 x2.snd.fst, V.int IntKind.i64 x2.snd.snd.fst, V.int IntKind.i64 x2.snd.snd.snd])], nx := 1 }
def f43s1 (b3 : Bool) (b4 : Bool) (x5 : Int × Int × Int × Int) : St := { fr := [(1, V.ref 0 0 0 0), (3, V.bool b3), (4, V.bool b4)], hp := [(0, Ob.var [V.int IntKind.i64 x5.fst, V.int IntKind.i64 x5.snd.fst, V.int IntKind.i64 x5.snd.snd.fst, V.int IntKind.i64 x5.snd.snd.snd])], nx := 1 }
theorem f43_go {R : Type} (J : List Item → St → Option R) (kk : V → List Ob → Option R) (v : Int × Int × Int × Int) :
  vseg (E 8) f43cuts 0 J (vend (E 8) 0 (fb Tryd.f43).1.results.toList false kk) 100000 true [.code (fb Tryd.f43).2] (start ([enc true rVal v]) ([])) =
  (bif decide (v.snd.snd.fst = (0 : Int)) then
    J f43t2 (f43s0 (decide (v.snd.snd.snd = (0 : Int))) (v))
  else J f43t2 (f43s0 (false) (v))) := by kernel_rfl
theorem f43_0 {R : Type} (J : List Item → St → Option R) (kk : V → List Ob → Option R) (b1 : Bool) (x2 : Int × Int × Int × Int) :
  vseg (E 8) f43cuts 0 J (vend (E 8) 0 (fb Tryd.f43).1.results.toList false kk) 100000 true f43t2 (f43s0 b1 x2) =
  (bif decide ((2 : Int) ≤ x2.snd.snd.fst) then
    (bif decide (x2.snd.snd.fst ≤ (15 : Int)) then
      (bif decide ((1 : Int) ≤ x2.snd.snd.snd) then
        (bif decide (x2.snd.snd.snd ≤ (15 : Int)) then
          J f43t3 (f43s1 (b1) (!decide (x2.snd.snd.fst = x2.snd.snd.snd)) (x2))
        else J f43t3 (f43s1 (b1) (false) (x2)))
      else J f43t3 (f43s1 (b1) (false) (x2)))
    else J f43t3 (f43s1 (b1) (false) (x2)))
  else J f43t3 (f43s1 (b1) (false) (x2))) := by kernel_rfl
theorem f43_1 {R : Type} (J : List Item → St → Option R) (kk : V → List Ob → Option R) (b3 : Bool) (b4 : Bool) (x5 : Int × Int × Int × Int) :
  vseg (E 8) f43cuts 0 J (vend (E 8) 0 (fb Tryd.f43).1.results.toList false kk) 100000 true f43t3 (f43s1 b3 b4 x5) =
  (bif decide ((0 : Int) ≤ x5.fst) then
    (bif decide (x5.fst ≤ (6 : Int)) then
      (bif decide ((0 : Int) ≤ x5.snd.fst) then
        (bif decide (x5.snd.fst ≤ (2 : Int)) then
          (bif b3 then
            kk (V.bool true) ([])
          else kk (V.bool b4) ([]))
        else kk (V.bool false) ([]))
      else kk (V.bool false) ([]))
    else kk (V.bool false) ([]))
  else kk (V.bool false) ([])) := by kernel_rfl

noncomputable abbrev f48cuts : Cuts := fun _ => none
theorem f48_go {R : Type} (J : List Item → St → Option R) (kk : V → List Ob → Option R) (p : Int × Int × Int) :
  vseg (E 8) f48cuts 0 J (vend (E 8) 0 (fb Tryd.f48).1.results.toList false kk) 100000 true [.code (fb Tryd.f48).2] (start ([enc true rPitch p]) ([])) =
  (bif decide (p.fst < (0 : Int)) then
    kk (V.bool false) ([])
  else (bif decide ((7 : Int) ≤ p.fst) then
      kk (V.bool false) ([])
    else (bif decide (p.snd.snd < (-1 : Int)) then
        kk (V.bool false) ([])
      else (bif decide ((9 : Int) < p.snd.snd) then
          kk (V.bool false) ([])
        else (bif decide (p.snd.fst < (-2 : Int)) then
            kk (V.bool false) ([])
          else (bif decide ((2 : Int) < p.snd.fst) then
              kk (V.bool false) ([])
            else (match idx glHalf p.fst with
                | some y1 => (bif decide ((0 : Int) ≤ IntKind.i64.wrap (IntKind.i64.wrap (IntKind.i64.wrap ((12 : Int) * IntKind.i64.wrap (p.snd.snd + (1 : Int))) + y1) + p.snd.fst)) then
                  kk (V.bool (decide (IntKind.i64.wrap (IntKind.i64.wrap (IntKind.i64.wrap ((12 : Int) * IntKind.i64.wrap (p.snd.snd + (1 : Int))) + y1) + p.snd.fst) ≤ (127 : Int)))) ([])
                else kk (V.bool false) ([]))
                | none => none))))))) := by kernel_rfl

noncomputable abbrev f85cuts : Cuts := fun _ => none
theorem f85_go {R : Type} (J : List Item → St → Option R) (kk : V → List Ob → Option R) (p : Int × Int × Int) :
  vseg (E 8) f85cuts 0 J (vend (E 8) 0 (fb Tryd.f85).1.results.toList false kk) 100000 true [.code (fb Tryd.f85).2] (start ([enc true rPitch p]) ([])) =
  (bif decide (p.fst < (0 : Int)) then
    kk (V.bool false) ([])
  else (bif decide ((6 : Int) < p.fst) then
      kk (V.bool false) ([])
    else (bif decide (p.snd.fst < (-2 : Int)) then
        kk (V.bool false) ([])
      else (bif decide ((2 : Int) < p.snd.fst) then
          kk (V.bool false) ([])
        else (bif decide (p.snd.snd < (-1 : Int)) then
            kk (V.bool false) ([])
          else (bif decide ((9 : Int) < p.snd.snd) then
              kk (V.bool false) ([])
            else (bif decide (p.fst < (3 : Int)) then
                (bif decide ((0 : Int) ≤ IntKind.i64.wrap (IntKind.i64.wrap (IntKind.i64.wrap ((12 : Int) * IntKind.i64.wrap (p.snd.snd + (1 : Int))) + IntKind.i64.wrap ((2 : Int) * p.fst)) + p.snd.fst)) then
                  kk (V.bool (decide (IntKind.i64.wrap (IntKind.i64.wrap (IntKind.i64.wrap ((12 : Int) * IntKind.i64.wrap (p.snd.snd + (1 : Int))) + IntKind.i64.wrap ((2 : Int) * p.fst)) + p.snd.fst) ≤ (127 : Int)))) ([])
                else kk (V.bool false) ([]))
              else (bif decide ((0 : Int) ≤ IntKind.i64.wrap (IntKind.i64.wrap (IntKind.i64.wrap ((12 : Int) * IntKind.i64.wrap (p.snd.snd + (1 : Int))) + IntKind.i64.wrap (IntKind.i64.wrap ((2 : Int) * p.fst) - (1 : Int))) + p.snd.fst)) then
                  kk (V.bool (decide (IntKind.i64.wrap (IntKind.i64.wrap (IntKind.i64.wrap ((12 : Int) * IntKind.i64.wrap (p.snd.snd + (1 : Int))) + IntKind.i64.wrap (IntKind.i64.wrap ((2 : Int) * p.fst) - (1 : Int))) + p.snd.fst) ≤ (127 : Int)))) ([])
                else kk (V.bool false) ([]))))))))) := by kernel_rfl

noncomputable abbrev f78cuts : Cuts := fun _ => none
theorem f78_go {R : Type} (J : List Item → St → Option R) (kk : V → List Ob → Option R) (s : List UInt8) :
  vseg (E 8) f78cuts 0 J (vend (E 8) 0 (fb Tryd.f78).1.results.toList false kk) 100000 true [.code (fb Tryd.f78).2] (start ([V.str s]) ([])) =
  (match idx s (0 : Int) with
    | some y1 => (match idx s (1 : Int) with
      | some y2 => (match idx s (2 : Int) with
        | some y3 => (match idx s (3 : Int) with
          | some y4 => (match idx s (4 : Int) with
            | some y5 => (match idx s (5 : Int) with
              | some y6 => (match idx s (6 : Int) with
                | some y7 => (match idx s (7 : Int) with
                  | some y8 => kk (V.int IntKind.u64 (bitop BinOp.or IntKind.u64 (bitop BinOp.or IntKind.u64 (bitop BinOp.or IntKind.u64 (bitop BinOp.or IntKind.u64 (bitop BinOp.or IntKind.u64 (bitop BinOp.or IntKind.u64 (bitop BinOp.or IntKind.u64 (IntKind.u64.wrap (↑y1.toNat : Int)) (IntKind.u64.wrap (IntKind.u64.wrap (↑y2.toNat : Int) * (2 : Int) ^ min (Int.toNat (8 : Int)) IntKind.u64.bits))) (IntKind.u64.wrap (IntKind.u64.wrap (↑y3.toNat : Int) * (2 : Int) ^ min (Int.toNat (16 : Int)) IntKind.u64.bits))) (IntKind.u64.wrap (IntKind.u64.wrap (↑y4.toNat : Int) * (2 : Int) ^ min (Int.toNat (24 : Int)) IntKind.u64.bits))) (IntKind.u64.wrap (IntKind.u64.wrap (↑y5.toNat : Int) * (2 : Int) ^ min (Int.toNat (32 : Int)) IntKind.u64.bits))) (IntKind.u64.wrap (IntKind.u64.wrap (↑y6.toNat : Int) * (2 : Int) ^ min (Int.toNat (40 : Int)) IntKind.u64.bits))) (IntKind.u64.wrap (IntKind.u64.wrap (↑y7.toNat : Int) * (2 : Int) ^ min (Int.toNat (48 : Int)) IntKind.u64.bits))) (IntKind.u64.wrap (IntKind.u64.wrap (↑y8.toNat : Int) * (2 : Int) ^ min (Int.toNat (56 : Int)) IntKind.u64.bits)))) ([])
                  | none => none)
                | none => none)
              | none => none)
            | none => none)
          | none => none)
        | none => none)
      | none => none)
    | none => none) := by kernel_rfl

noncomputable abbrev f71cuts : Cuts := fun _ => none
theorem f71_go {R : Type} (J : List Item → St → Option R) (kk : V → List Ob → Option R) (x : Int) (y : Int) :
  vseg (E 8) f71cuts 0 J (vend (E 8) 0 (fb Tryd.f71).1.results.toList false kk) 100000 true [.code (fb Tryd.f71).2] (start ([V.int IntKind.i64 x, V.int IntKind.i64 y]) ([])) =
  (bif !decide (x = x) then
    (bif !decide (y = y) then
      kk (V.int IntKind.i64 (0 : Int)) ([])
    else kk (V.int IntKind.i64 ((-1 : Int))) ([]))
  else (bif !decide (y = y) then
      kk (V.int IntKind.i64 (1 : Int)) ([])
    else (bif decide (x < y) then
        kk (V.int IntKind.i64 ((-1 : Int))) ([])
      else (bif decide (y < x) then
          kk (V.int IntKind.i64 (1 : Int)) ([])
        else kk (V.int IntKind.i64 (0 : Int)) ([]))))) := by kernel_rfl

end Vm.S07

open Go Go.Proofs
namespace Vm.S07
theorem w64 {n : Int} (h₁ : -9223372036854775808 ≤ n) (h₂ : n ≤ 9223372036854775807) : IntKind.wrap .i64 n = n := wrap_i64 h₁ h₂

theorem f43_run {R : Type} (kk : V → List Ob → Option R) (v : Vl) :
    vrun (E 8) f43cuts 0 100000 (vend (E 8) 0 (fb Tryd.f43).1.results.toList false kk) 3 [.code (fb Tryd.f43).2] (start [enc true rVal v] []) = kk (.bool (Vl.right v)) [] := by
  have h1 : ∀ b1 b2, vrun (E 8) f43cuts 0 100000 (vend (E 8) 0 (fb Tryd.f43).1.results.toList false kk) 1 f43t3 (f43s1 b1 b2 v) = kk (.bool (decide (0 ≤ v.1 ∧ v.1 ≤ 6 ∧ 0 ≤ v.2.1 ∧ v.2.1 ≤ 2) && (b1 || b2))) [] := fun b1 b2 => by
    rw [vrun_succ, f43_1]
    simp only [bif_kb]
    refine congrArg (fun b => kk (V.bool b) []) ?_
    rw [Bool.eq_iff_iff]; simp only [cond_iff, decide_eq_true_eq, decide_eq_false_iff_not, Bool.and_eq_true, Bool.or_eq_true, Bool.false_eq_true, true_and, and_true, and_false, or_false]
    cases b1 <;> cases b2 <;> simp <;> omega
  rw [vrun_succ, f43_go]
  simp only [vrun_succ, f43_0] at h1 ⊢
  simp only [h1, bif_kb]
  refine congrArg (fun b => kk (V.bool b) []) ?_
  rw [Bool.eq_iff_iff]
  simp only [Vl.right, cond_iff, decide_eq_true_eq, decide_eq_false_iff_not, Bool.and_eq_true, Bool.or_eq_true, Bool.false_eq_true, Bool.not_eq_true', or_false]
  grind

theorem f48_run {R : Type} (kk : V → List Ob → Option R) (p : Pt) :
    vrun (E 8) f48cuts 0 100000 (vend (E 8) 0 (fb Tryd.f48).1.results.toList false kk) 1 [.code (fb Tryd.f48).2] (start [enc true rPitch p] []) = kk (.bool (Pt.right p)) [] := by
  rw [vrun_succ, f48_go]
  obtain ⟨a, b, c⟩ := p
  by_cases h : 0 ≤ a ∧ a ≤ 6 ∧ -2 ≤ b ∧ b ≤ 2 ∧ -1 ≤ c ∧ c ≤ 9
  · obtain ⟨h1, h2, h3, h4, h5, h6⟩ := h
    have hh := Pt.half_le h1 h2
    dsimp only
    rw [bif_neg (by simp; omega), bif_neg (by simp; omega), bif_neg (by simp; omega), bif_neg (by simp; omega), bif_neg (by simp; omega), bif_neg (by simp; omega), show idx glHalf a = some (Pt.half a) from glHalf_idx h1 h2]
    dsimp only
    rw [w64 (n := c + 1) (by omega) (by omega), w64 (n := 12 * (c + 1)) (by omega) (by omega), w64 (n := 12 * (c + 1) + Pt.half a) (by omega) (by omega), w64 (n := 12 * (c + 1) + Pt.half a + b) (by omega) (by omega)]
    simp only [Pt.right, Pt.num, Bool.cond_eq_ite, decide_eq_true_eq]
    split <;> (refine congrArg (fun b => kk (V.bool b) []) ?_; rw [Bool.eq_iff_iff]; simp only [decide_eq_true_eq, true_iff, false_iff, Bool.false_eq_true]; first | omega | grind)
  · simp only [Pt.right, Bool.cond_eq_ite, decide_eq_true_eq]
    repeat' split
    all_goals first | (exfalso; omega) | (refine congrArg (fun b => kk (V.bool b) []) ?_; rw [Bool.eq_iff_iff]; simp only [decide_eq_true_eq, true_iff, false_iff, Bool.false_eq_true]; first | omega | grind)

theorem f85_run {R : Type} (kk : V → List Ob → Option R) (p : Pt) :
    vrun (E 8) f85cuts 0 100000 (vend (E 8) 0 (fb Tryd.f85).1.results.toList false kk) 1 [.code (fb Tryd.f85).2] (start [enc true rPitch p] []) = kk (.bool (Pt.right p)) [] := by
  rw [vrun_succ, f85_go]
  obtain ⟨a, b, c⟩ := p
  by_cases h : 0 ≤ a ∧ a ≤ 6 ∧ -2 ≤ b ∧ b ≤ 2 ∧ -1 ≤ c ∧ c ≤ 9
  · obtain ⟨h1, h2, h3, h4, h5, h6⟩ := h
    dsimp only
    rw [bif_neg (by simp; omega), bif_neg (by simp; omega), bif_neg (by simp; omega), bif_neg (by simp; omega), bif_neg (by simp; omega), bif_neg (by simp; omega)]
    rw [w64 (n := c + 1) (by omega) (by omega), w64 (n := 12 * (c + 1)) (by omega) (by omega), w64 (n := 2 * a) (by omega) (by omega), w64 (n := 2 * a - 1) (by omega) (by omega), w64 (n := 12 * (c + 1) + 2 * a) (by omega) (by omega), w64 (n := 12 * (c + 1) + (2 * a - 1)) (by omega) (by omega), w64 (n := 12 * (c + 1) + 2 * a + b) (by omega) (by omega), w64 (n := 12 * (c + 1) + (2 * a - 1) + b) (by omega) (by omega)]
    simp only [Pt.right, Pt.num, Pt.half, Bool.cond_eq_ite, decide_eq_true_eq]
    repeat' split
    all_goals (refine congrArg (fun b => kk (V.bool b) []) ?_; rw [Bool.eq_iff_iff]; simp only [decide_eq_true_eq, true_iff, false_iff, Bool.false_eq_true]; first | omega | grind)
  · simp only [Pt.right, Bool.cond_eq_ite, decide_eq_true_eq]
    repeat' split
    all_goals first | (exfalso; omega) | (refine congrArg (fun b => kk (V.bool b) []) ?_; rw [Bool.eq_iff_iff]; simp only [decide_eq_true_eq, true_iff, false_iff, Bool.false_eq_true]; first | omega | grind)

theorem f78_run {R : Type} (kk : V → List Ob → Option R) (s : List UInt8) (h : 8 ≤ s.length) :
    vrun (E 8) f78cuts 0 100000 (vend (E 8) 0 (fb Tryd.f78).1.results.toList false kk) 1 [.code (fb Tryd.f78).2] (start [.str s] []) = kk (.int .u64 (word8 s)) [] := by
  rw [vrun_succ, f78_go]
  match s, h with
  | a :: b :: c :: d :: e :: f :: g :: h :: r, _ => rfl

theorem f71_run {R : Type} (kk : V → List Ob → Option R) (x y : Int) :
    vrun (E 8) f71cuts 0 100000 (vend (E 8) 0 (fb Tryd.f71).1.results.toList false kk) 1 [.code (fb Tryd.f71).2] (start [enc false rI x, enc false rI y] []) = kk (.int .i64 (sgn x y)) [] := by
  rw [vrun_succ]
  refine (f71_go _ kk x y).trans ?_
  simp only [decide_true, Bool.not_true, cond_false, bif_ki]
  refine congrArg (fun b => kk (V.int .i64 b) []) ?_
  simp only [sgn, Bool.cond_eq_ite, decide_eq_true_eq]

noncomputable def f71e : Entry Tryd.prog gls := .two 71 false rI false rI (by intro h; cases h <;> rfl) (by intro h; cases h <;> rfl) (fun (x : Int) (y : Int) => (true, .int .i64 (sgn x y))) fun x y h => by
  have _ := h
  have hn := f71_run (fun v os => some (v, os)) x y
  exact contract_run (fn := (fb Tryd.f71).1) (c := (fb Tryd.f71).2) mixed (ready 8) (glE 8) Tryd.func71 (by kernel_rfl) rfl rfl (by kernel_rfl) hn

noncomputable def f43e : Entry Tryd.prog gls := .one 43 true rVal (by intro h; cases h <;> rfl) (fun (x : Vl) => (true, .bool (Vl.right x))) fun x h => by
  have _ := h
  have hn := f43_run (fun v os => some (v, os)) x
  exact contract_run (fn := (fb Tryd.f43).1) (c := (fb Tryd.f43).2) mixed (ready 8) (glE 8) Tryd.func43 (by kernel_rfl) rfl rfl (by kernel_rfl) hn

noncomputable def f48e : Entry Tryd.prog gls := .one 48 true rPitch (by intro h; cases h <;> rfl) (fun (x : Pt) => (true, .bool (Pt.right x))) fun x h => by
  have _ := h
  have hn := f48_run (fun v os => some (v, os)) x
  exact contract_run (fn := (fb Tryd.f48).1) (c := (fb Tryd.f48).2) mixed (ready 8) (glE 8) Tryd.func48 (by kernel_rfl) rfl rfl (by kernel_rfl) hn

noncomputable def f85e : Entry Tryd.prog gls := .one 85 true rPitch (by intro h; cases h <;> rfl) (fun (x : Pt) => (true, .bool (Pt.right x))) fun x h => by
  have _ := h
  have hn := f85_run (fun v os => some (v, os)) x
  exact contract_run (fn := (fb Tryd.f85).1) (c := (fb Tryd.f85).2) mixed (ready 8) (glE 8) Tryd.func85 (by kernel_rfl) rfl rfl (by kernel_rfl) hn

noncomputable def f78e : Entry Tryd.prog gls := .one 78 false rS (by intro h; cases h <;> rfl) (fun (x : List UInt8) => (decide (8 ≤ x.length), .int .u64 (word8 x))) fun x h => by
  have _ := h
  have hn := f78_run (fun v os => some (v, os)) x (of_decide_eq_true h)
  exact contract_run (fn := (fb Tryd.f78).1) (c := (fb Tryd.f78).2) mixed (ready 8) (glE 8) Tryd.func78 (by kernel_rfl) rfl rfl (by kernel_rfl) hn

noncomputable def es4 : List (Entry Tryd.prog gls) := [f71e, f43e, f48e, f85e, f78e] ++ []
noncomputable def E4 (n : Nat) : Env := interp fns (look tys) gls mvs (tabOf es4) 100000 n
theorem ready4 (n : Nat) : Ready Tryd.prog (E4 n) := ready_of mixed fnsAll tysOk rfsOk n
theorem glE4 (n : Nat) : (E4 n).gl = gls := by cases n <;> rfl
end Vm.S07

open Go Go.Proofs
namespace Vm.S07
noncomputable abbrev f72cuts : Cuts := fun _ => none
theorem f72_go {R : Type} (J : List Item → St → Option R) (kk : V → List Ob → Option R) (p : Int × Int × Int) :
  vseg (E4 8) f72cuts 0 J (vend (E4 8) 0 (fb Tryd.f72).1.results.toList false kk) 100000 true [.code (fb Tryd.f72).2] (start ([enc true rPitch p]) ([])) =
  kk (V.int IntKind.i64 (IntKind.i64.wrap (IntKind.i64.wrap ((7 : Int) * p.snd.snd) + p.fst))) ([]) := by kernel_rfl

noncomputable abbrev f69cuts : Cuts := fun _ => none
theorem f69_go {R : Type} (J : List Item → St → Option R) (kk : V → List Ob → Option R) (p : Int × Int × Int) :
  vseg (E4 8) f69cuts 0 J (vend (E4 8) 0 (fb Tryd.f69).1.results.toList false kk) 100000 true [.code (fb Tryd.f69).2] (start ([enc true rPitch p]) ([])) =
  (match idx glHalf p.fst with
    | some y1 => kk (V.int IntKind.i64 (IntKind.i64.wrap (IntKind.i64.wrap (IntKind.i64.wrap ((12 : Int) * IntKind.i64.wrap (p.snd.snd + (1 : Int))) + y1) + p.snd.fst))) ([])
    | none => none) := by kernel_rfl

noncomputable abbrev f83cuts : Cuts := fun _ => none
theorem f83_go {R : Type} (J : List Item → St → Option R) (kk : V → List Ob → Option R) (p : Int × Int × Int) :
  vseg (E4 8) f83cuts 0 J (vend (E4 8) 0 (fb Tryd.f83).1.results.toList false kk) 100000 true [.code (fb Tryd.f83).2] (start ([enc true rPitch p]) ([])) =
  (bif !Pt.right p then
    kk (V.tuple [V.int IntKind.i64 (0 : Int), V.int IntKind.i64 (20 : Int)]) ([])
  else kk (V.tuple [V.int IntKind.i64 (IntKind.i64.wrap (IntKind.i64.wrap ((7 : Int) * p.snd.snd) + p.fst)), V.int IntKind.i64 (0 : Int)]) ([])) := by kernel_rfl

noncomputable abbrev f84cuts : Cuts := fun _ => none
theorem f84_go {R : Type} (J : List Item → St → Option R) (kk : V → List Ob → Option R) (p : Int × Int × Int) :
  vseg (E4 8) f84cuts 0 J (vend (E4 8) 0 (fb Tryd.f84).1.results.toList false kk) 100000 true [.code (fb Tryd.f84).2] (start ([enc true rPitch p]) ([])) =
  (bif !Pt.right p then
    kk (V.tuple [V.int IntKind.i64 (0 : Int), V.int IntKind.i64 (20 : Int)]) ([])
  else (bif decide (p.fst < (3 : Int)) then
      kk (V.tuple [V.int IntKind.i64 (IntKind.i64.wrap (IntKind.i64.wrap (IntKind.i64.wrap ((12 : Int) * IntKind.i64.wrap (p.snd.snd + (1 : Int))) + IntKind.i64.wrap ((2 : Int) * p.fst)) + p.snd.fst)), V.int IntKind.i64 (0 : Int)]) ([])
    else kk (V.tuple [V.int IntKind.i64 (IntKind.i64.wrap (IntKind.i64.wrap (IntKind.i64.wrap ((12 : Int) * IntKind.i64.wrap (p.snd.snd + (1 : Int))) + IntKind.i64.wrap (IntKind.i64.wrap ((2 : Int) * p.fst) - (1 : Int))) + p.snd.fst)), V.int IntKind.i64 (0 : Int)]) ([]))) := by kernel_rfl

end Vm.S07

open Go Go.Proofs
namespace Vm.S07
theorem f72_run {R : Type} (kk : V → List Ob → Option R) (p : Pt) (h : Pt.mild p = true) :
    vrun (E4 8) f72cuts 0 100000 (vend (E4 8) 0 (fb Tryd.f72).1.results.toList false kk) 1 [.code (fb Tryd.f72).2] (start [enc true rPitch p] []) = kk (.int .i64 (Pt.line p)) [] := by
  rw [vrun_succ, f72_go]
  obtain ⟨a, b, c⟩ := p
  simp only [Pt.mild, decide_eq_true_eq] at h
  rw [w64 (n := 7 * c) (by omega) (by omega), w64 (n := 7 * c + a) (by omega) (by omega)]
  rfl
theorem f69_run {R : Type} (kk : V → List Ob → Option R) (p : Pt) (h : Pt.mild p = true) :
    vrun (E4 8) f69cuts 0 100000 (vend (E4 8) 0 (fb Tryd.f69).1.results.toList false kk) 1 [.code (fb Tryd.f69).2] (start [enc true rPitch p] []) = kk (.int .i64 (Pt.num p)) [] := by
  rw [vrun_succ, f69_go]
  obtain ⟨a, b, c⟩ := p
  simp only [Pt.mild, decide_eq_true_eq] at h
  have hh := Pt.half_le h.1 h.2.1
  rw [show idx glHalf a = some (Pt.half a) from glHalf_idx h.1 h.2.1]
  dsimp only
  rw [w64 (n := c + 1) (by omega) (by omega), w64 (n := 12 * (c + 1)) (by omega) (by omega), w64 (n := 12 * (c + 1) + Pt.half a) (by omega) (by omega), w64 (n := 12 * (c + 1) + Pt.half a + b) (by omega) (by omega)]
  rfl
theorem f83_run {R : Type} (kk : V → List Ob → Option R) (p : Pt) :
    vrun (E4 8) f83cuts 0 100000 (vend (E4 8) 0 (fb Tryd.f83).1.results.toList false kk) 1 [.code (fb Tryd.f83).2] (start [enc true rPitch p] []) = kk (.tuple [.int .i64 (bif Pt.right p then Pt.line p else 0), .int .i64 (bif Pt.right p then 0 else 20)]) [] := by
  rw [vrun_succ, f83_go]
  cases hr : Pt.right p with
  | false => rfl
  | true =>
    have h := Pt.mild_of hr
    obtain ⟨a, b, c⟩ := p
    simp only [Pt.mild, decide_eq_true_eq] at h
    rw [w64 (n := 7 * c) (by omega) (by omega), w64 (n := 7 * c + a) (by omega) (by omega)]
    rfl
theorem f84_run {R : Type} (kk : V → List Ob → Option R) (p : Pt) :
    vrun (E4 8) f84cuts 0 100000 (vend (E4 8) 0 (fb Tryd.f84).1.results.toList false kk) 1 [.code (fb Tryd.f84).2] (start [enc true rPitch p] []) = kk (.tuple [.int .i64 (bif Pt.right p then Pt.num p else 0), .int .i64 (bif Pt.right p then 0 else 20)]) [] := by
  rw [vrun_succ, f84_go]
  cases hr : Pt.right p with
  | false => rfl
  | true =>
    have h := Pt.mild_of hr
    obtain ⟨a, b, c⟩ := p
    simp only [Pt.mild, decide_eq_true_eq] at h
    dsimp only
    rw [w64 (n := c + 1) (by omega) (by omega), w64 (n := 12 * (c + 1)) (by omega) (by omega), w64 (n := 2 * a) (by omega) (by omega), w64 (n := 2 * a - 1) (by omega) (by omega), w64 (n := 12 * (c + 1) + 2 * a) (by omega) (by omega), w64 (n := 12 * (c + 1) + (2 * a - 1)) (by omega) (by omega), w64 (n := 12 * (c + 1) + 2 * a + b) (by omega) (by omega), w64 (n := 12 * (c + 1) + (2 * a - 1) + b) (by omega) (by omega)]
    by_cases h3 : a < 3
    · rw [bif_neg (by rfl), bif_pos (by simpa using h3)]
      simp only [cond_true, Pt.num, Pt.half, if_pos h3]
    · rw [bif_neg (by rfl), bif_neg (by simpa using h3)]
      simp only [cond_true, Pt.num, Pt.half, if_neg h3]

noncomputable def f72e : Entry Tryd.prog gls := .one 72 true rPitch (by intro h; cases h <;> rfl) (fun (x : Pt) => (Pt.mild x, .int .i64 (Pt.line x))) fun x h => by
  have _ := h
  have hn := f72_run (fun v os => some (v, os)) x h
  exact contract_run (fn := (fb Tryd.f72).1) (c := (fb Tryd.f72).2) mixed (ready4 8) (glE4 8) Tryd.func72 (by kernel_rfl) rfl rfl (by kernel_rfl) hn

noncomputable def f69e : Entry Tryd.prog gls := .one 69 true rPitch (by intro h; cases h <;> rfl) (fun (x : Pt) => (Pt.mild x, .int .i64 (Pt.num x))) fun x h => by
  have _ := h
  have hn := f69_run (fun v os => some (v, os)) x h
  exact contract_run (fn := (fb Tryd.f69).1) (c := (fb Tryd.f69).2) mixed (ready4 8) (glE4 8) Tryd.func69 (by kernel_rfl) rfl rfl (by kernel_rfl) hn

noncomputable def f83e : Entry Tryd.prog gls := .one 83 true rPitch (by intro h; cases h <;> rfl) (fun (x : Pt) => (true, .tuple [.int .i64 (bif Pt.right x then Pt.line x else 0), .int .i64 (bif Pt.right x then 0 else 20)])) fun x h => by
  have _ := h
  have hn := f83_run (fun v os => some (v, os)) x
  exact contract_run (fn := (fb Tryd.f83).1) (c := (fb Tryd.f83).2) mixed (ready4 8) (glE4 8) Tryd.func83 (by kernel_rfl) rfl rfl (by kernel_rfl) hn

noncomputable def f84e : Entry Tryd.prog gls := .one 84 true rPitch (by intro h; cases h <;> rfl) (fun (x : Pt) => (true, .tuple [.int .i64 (bif Pt.right x then Pt.num x else 0), .int .i64 (bif Pt.right x then 0 else 20)])) fun x h => by
  have _ := h
  have hn := f84_run (fun v os => some (v, os)) x
  exact contract_run (fn := (fb Tryd.f84).1) (c := (fb Tryd.f84).2) mixed (ready4 8) (glE4 8) Tryd.func84 (by kernel_rfl) rfl rfl (by kernel_rfl) hn

noncomputable def es5 : List (Entry Tryd.prog gls) := [f72e, f69e, f83e, f84e] ++ es4
noncomputable def E5 (n : Nat) : Env := interp fns (look tys) gls mvs (tabOf es5) 100000 n
theorem ready5 (n : Nat) : Ready Tryd.prog (E5 n) := ready_of mixed fnsAll tysOk rfsOk n
theorem glE5 (n : Nat) : (E5 n).gl = gls := by cases n <;> rfl
end Vm.S07

open Go Go.Proofs
namespace Vm.S07
noncomputable abbrev f51cuts : Cuts := fun _ => none
theorem f51_go {R : Type} (J : List Item → St → Option R) (kk : V → List Ob → Option R) (p : Int × Int × Int) (q : Int × Int × Int) :
  vseg (E5 8) f51cuts 0 J (vend (E5 8) 0 (fb Tryd.f51).1.results.toList false kk) 100000 true [.code (fb Tryd.f51).2] (start ([enc true rPitch p, enc true rPitch q]) ([])) =
  (bif !Pt.right p then
    kk (V.int IntKind.i64 (0 : Int)) ([])
  else (bif !Pt.right q then
      kk (V.int IntKind.i64 (0 : Int)) ([])
    else (bif Pt.mild p then
        (bif Pt.mild q then
          (bif Pt.mild p then
            (bif Pt.mild q then
              (bif !decide (sgn (Pt.num p) (Pt.num q) = (0 : Int)) then
                kk (V.int IntKind.i64 (sgn (Pt.num p) (Pt.num q))) ([])
              else (bif !decide (sgn (Pt.line p) (Pt.line q) = (0 : Int)) then
                  kk (V.int IntKind.i64 (sgn (Pt.line p) (Pt.line q))) ([])
                else kk (V.int IntKind.i64 (0 : Int)) ([])))
            else none)
          else none)
        else none)
      else none))) := by kernel_rfl

noncomputable abbrev f76cuts : Cuts := fun _ => none
theorem f76_go {R : Type} (J : List Item → St → Option R) (kk : V → List Ob → Option R) (p : Int × Int × Int) (q : Int × Int × Int) :
  vseg (E5 8) f76cuts 0 J (vend (E5 8) 0 (fb Tryd.f76).1.results.toList false kk) 100000 true [.code (fb Tryd.f76).2] (start ([enc true rPitch p, enc true rPitch q]) ([])) =
  (bif !decide ((bif Pt.right p then (0 : Int) else (20 : Int)) = (0 : Int)) then
    kk (V.int IntKind.i64 (0 : Int)) ([])
  else (bif !decide ((bif Pt.right q then (0 : Int) else (20 : Int)) = (0 : Int)) then
      kk (V.int IntKind.i64 (0 : Int)) ([])
    else (bif decide ((0 : Int) < IntKind.i64.wrap ((bif Pt.right q then Pt.num q else (0 : Int)) - bif Pt.right p then Pt.num p else (0 : Int))) then
        kk (V.int IntKind.i64 ((-1 : Int))) ([])
      else (bif decide (IntKind.i64.wrap ((bif Pt.right q then Pt.num q else (0 : Int)) - bif Pt.right p then Pt.num p else (0 : Int)) = (0 : Int)) then
          (bif decide ((0 : Int) < IntKind.i64.wrap ((bif Pt.right q then Pt.line q else (0 : Int)) - bif Pt.right p then Pt.line p else (0 : Int))) then
            kk (V.int IntKind.i64 ((-1 : Int))) ([])
          else (bif decide (IntKind.i64.wrap ((bif Pt.right q then Pt.num q else (0 : Int)) - bif Pt.right p then Pt.num p else (0 : Int)) < (0 : Int)) then
              kk (V.int IntKind.i64 (1 : Int)) ([])
            else (bif decide (IntKind.i64.wrap ((bif Pt.right q then Pt.line q else (0 : Int)) - bif Pt.right p then Pt.line p else (0 : Int)) < (0 : Int)) then
                kk (V.int IntKind.i64 (1 : Int)) ([])
              else kk (V.int IntKind.i64 (0 : Int)) ([]))))
        else (bif decide (IntKind.i64.wrap ((bif Pt.right q then Pt.num q else (0 : Int)) - bif Pt.right p then Pt.num p else (0 : Int)) < (0 : Int)) then
            kk (V.int IntKind.i64 (1 : Int)) ([])
          else (bif decide (IntKind.i64.wrap ((bif Pt.right q then Pt.line q else (0 : Int)) - bif Pt.right p then Pt.line p else (0 : Int)) < (0 : Int)) then
              kk (V.int IntKind.i64 (1 : Int)) ([])
            else kk (V.int IntKind.i64 (0 : Int)) ([]))))))) := by kernel_rfl

noncomputable abbrev f64cuts : Cuts := look [(1, [0]), (5, [0]), (7, [0]), (9, [0]), (11, [0, 3]), (14, [0, 5, 6])]
noncomputable abbrev f64t9 : List Item := itemsAt (fb Tryd.f64).2 9
noncomputable abbrev f64t14 : List Item := itemsAt (fb Tryd.f64).2 14
noncomputable abbrev f64t7 : List Item := itemsAt (fb Tryd.f64).2 7
noncomputable abbrev f64t11 : List Item := itemsAt (fb Tryd.f64).2 11
noncomputable abbrev f64t5 : List Item := itemsAt (fb Tryd.f64).2 5
noncomputable abbrev f64t1 : List Item := itemsAt (fb Tryd.f64).2 1
def f64s0 (s1 : List UInt8) : St := { fr := [(0, V.str s1)], hp := [], nx := 0 }
def f64s1 (s3 : List UInt8) : St := { fr := [(0, V.str s3)], hp := [], nx := 0 }
def f64s2 (s4 : List UInt8) (n5 : Int) : St := { fr := [(0, V.str s4), (3, V.int IntKind.u8 n5)], hp := [], nx := 0 }
def f64s3 (s6 : List UInt8) : St := { fr := [(0, V.str s6)], hp := [], nx := 0 }
def f64s4 (s9 : List UInt8) (n10 : Int) (x11 : Int × Int) : St := { fr := [(0, V.str s9), (5, V.int IntKind.i64 n10), (6, V.ref 0 0 0 0)], hp := [(0, Ob.var [V.int IntKind.u8 x11.fst, V.int IntKind.u8 x11.snd])], nx := 1 }
def f64s5 (s12 : List UInt8) : St := { fr := [(0, V.str s12)], hp := [], nx := 0 }
theorem f64_go {R : Type} (J : List Item → St → Option R) (kk : V → List Ob → Option R) (s : List UInt8) :
  vseg (E5 8) f64cuts 0 J (vend (E5 8) 0 (fb Tryd.f64).1.results.toList false kk) 100000 true [.code (fb Tryd.f64).2] (start ([V.str s]) ([])) =
  J f64t1 (f64s0 (s)) := by kernel_rfl
theorem f64_0 {R : Type} (J : List Item → St → Option R) (kk : V → List Ob → Option R) (s1 : List UInt8) :
  vseg (E5 8) f64cuts 0 J (vend (E5 8) 0 (fb Tryd.f64).1.results.toList false kk) 100000 true f64t1 (f64s0 s1) =
  (bif decide ((0 : Int) < (↑s1.length : Int)) then
    (match idx s1 (0 : Int) with
      | some y2 => (bif decide ((↑y2.toNat : Int) < (128 : Int)) then
        (bif decide ((0 : Int) ≤ (1 : Int) ∧ (1 : Int) ≤ (↑s1.length : Int) ∧ (↑s1.length : Int) ≤ (↑s1.length : Int) ∧ (↑s1.length : Int) ≤ (↑s1.length : Int)) then
          J f64t5 (f64s1 (List.take ((↑s1.length : Int).toNat - Int.toNat (1 : Int)) (List.drop (Int.toNat (1 : Int)) s1)))
        else none)
      else J f64t11 (f64s2 (s1) ((↑y2.toNat : Int))))
      | none => none)
  else kk (V.bool true) ([])) := by kernel_rfl
theorem f64_1 {R : Type} (J : List Item → St → Option R) (kk : V → List Ob → Option R) (s3 : List UInt8) :
  vseg (E5 8) f64cuts 0 J (vend (E5 8) 0 (fb Tryd.f64).1.results.toList false kk) 100000 true f64t5 (f64s1 s3) =
  (bif decide ((8 : Int) < (↑s3.length : Int)) then
    (bif decide ((8 : Nat) ≤ s3.length) then
      (bif decide (bitop BinOp.and IntKind.u64 (word8 s3) (9259542123273814144 : Int) = (0 : Int)) then
        (bif decide ((0 : Int) ≤ (8 : Int) ∧ (8 : Int) ≤ (↑s3.length : Int) ∧ (↑s3.length : Int) ≤ (↑s3.length : Int) ∧ (↑s3.length : Int) ≤ (↑s3.length : Int)) then
          J f64t7 (f64s3 (List.take ((↑s3.length : Int).toNat - Int.toNat (8 : Int)) (List.drop (Int.toNat (8 : Int)) s3)))
        else none)
      else J f64t1 (f64s0 (s3)))
    else none)
  else J f64t1 (f64s0 (s3))) := by kernel_rfl
theorem f64_2 {R : Type} (J : List Item → St → Option R) (kk : V → List Ob → Option R) (s4 : List UInt8) (n5 : Int) :
  vseg (E5 8) f64cuts 0 J (vend (E5 8) 0 (fb Tryd.f64).1.results.toList false kk) 100000 true f64t11 (f64s2 s4 n5) =
  (match idx utf8First n5 with
    | some y7 => (match idx utf8Accept (y7.fdiv ((2 : Int) ^ min (Int.toNat (4 : Int)) IntKind.u8.bits)) with
      | some y8 => J f64t14 (f64s4 (s4) (IntKind.i64.wrap (bitop BinOp.and IntKind.u8 y7 (7 : Int))) (y8))
      | none => none)
    | none => none) := by kernel_rfl
theorem f64_3 {R : Type} (J : List Item → St → Option R) (kk : V → List Ob → Option R) (s6 : List UInt8) :
  vseg (E5 8) f64cuts 0 J (vend (E5 8) 0 (fb Tryd.f64).1.results.toList false kk) 100000 true f64t7 (f64s3 s6) =
  (bif decide ((16 : Int) < (↑s6.length : Int)) then
    (bif decide ((8 : Nat) ≤ s6.length) then
      (bif decide ((0 : Int) ≤ (8 : Int) ∧ (8 : Int) ≤ (↑s6.length : Int) ∧ (↑s6.length : Int) ≤ (↑s6.length : Int) ∧ (↑s6.length : Int) ≤ (↑s6.length : Int)) then
        (bif decide ((8 : Nat) ≤ (List.take ((↑s6.length : Int).toNat - Int.toNat (8 : Int)) (List.drop (Int.toNat (8 : Int)) s6)).length) then
          (bif decide (bitop BinOp.and IntKind.u64 (bitop BinOp.or IntKind.u64 (word8 s6) (word8 (List.take ((↑s6.length : Int).toNat - Int.toNat (8 : Int)) (List.drop (Int.toNat (8 : Int)) s6)))) (9259542123273814144 : Int) = (0 : Int)) then
            (bif decide ((0 : Int) ≤ (16 : Int) ∧ (16 : Int) ≤ (↑s6.length : Int) ∧ (↑s6.length : Int) ≤ (↑s6.length : Int) ∧ (↑s6.length : Int) ≤ (↑s6.length : Int)) then
              J f64t9 (f64s5 (List.take ((↑s6.length : Int).toNat - Int.toNat (16 : Int)) (List.drop (Int.toNat (16 : Int)) s6)))
            else none)
          else J f64t1 (f64s0 (s6)))
        else none)
      else none)
    else none)
  else J f64t1 (f64s0 (s6))) := by kernel_rfl
theorem f64_4 {R : Type} (J : List Item → St → Option R) (kk : V → List Ob → Option R) (s9 : List UInt8) (n10 : Int) (x11 : Int × Int) :
  vseg (E5 8) f64cuts 0 J (vend (E5 8) 0 (fb Tryd.f64).1.results.toList false kk) 100000 true f64t14 (f64s4 s9 n10 x11) =
  (bif decide (n10 = (2 : Int)) then
    (bif decide ((↑s9.length : Int) < (2 : Int)) then
      kk (V.bool false) ([])
    else (match idx s9 (1 : Int) with
        | some y13 => (bif decide ((↑y13.toNat : Int) < x11.fst) then
          kk (V.bool false) ([])
        else (match idx s9 (1 : Int) with
            | some y14 => (bif decide (x11.snd < (↑y14.toNat : Int)) then
              kk (V.bool false) ([])
            else (bif decide ((0 : Int) ≤ (2 : Int) ∧ (2 : Int) ≤ (↑s9.length : Int) ∧ (↑s9.length : Int) ≤ (↑s9.length : Int) ∧ (↑s9.length : Int) ≤ (↑s9.length : Int)) then
                J f64t1 (f64s0 (List.take ((↑s9.length : Int).toNat - Int.toNat (2 : Int)) (List.drop (Int.toNat (2 : Int)) s9)))
              else none))
            | none => none))
        | none => none))
  else (bif decide (n10 = (3 : Int)) then
      (bif decide ((↑s9.length : Int) < (3 : Int)) then
        kk (V.bool false) ([])
      else (match idx s9 (1 : Int) with
          | some y15 => (bif decide ((↑y15.toNat : Int) < x11.fst) then
            kk (V.bool false) ([])
          else (match idx s9 (1 : Int) with
              | some y16 => (bif decide (x11.snd < (↑y16.toNat : Int)) then
                kk (V.bool false) ([])
              else (match idx s9 (2 : Int) with
                  | some y17 => (bif decide ((↑y17.toNat : Int) < (128 : Int)) then
                    kk (V.bool false) ([])
                  else (match idx s9 (2 : Int) with
                      | some y18 => (bif decide ((191 : Int) < (↑y18.toNat : Int)) then
                        kk (V.bool false) ([])
                      else (bif decide ((0 : Int) ≤ (3 : Int) ∧ (3 : Int) ≤ (↑s9.length : Int) ∧ (↑s9.length : Int) ≤ (↑s9.length : Int) ∧ (↑s9.length : Int) ≤ (↑s9.length : Int)) then
                          J f64t1 (f64s0 (List.take ((↑s9.length : Int).toNat - Int.toNat (3 : Int)) (List.drop (Int.toNat (3 : Int)) s9)))
                        else none))
                      | none => none))
                  | none => none))
              | none => none))
          | none => none))
    else (bif decide (n10 = (4 : Int)) then
        (bif decide ((↑s9.length : Int) < (4 : Int)) then
          kk (V.bool false) ([])
        else (match idx s9 (1 : Int) with
            | some y19 => (bif decide ((↑y19.toNat : Int) < x11.fst) then
              kk (V.bool false) ([])
            else (match idx s9 (1 : Int) with
                | some y20 => (bif decide (x11.snd < (↑y20.toNat : Int)) then
                  kk (V.bool false) ([])
                else (match idx s9 (2 : Int) with
                    | some y21 => (bif decide ((↑y21.toNat : Int) < (128 : Int)) then
                      kk (V.bool false) ([])
                    else (match idx s9 (2 : Int) with
                        | some y22 => (bif decide ((191 : Int) < (↑y22.toNat : Int)) then
                          kk (V.bool false) ([])
                        else (match idx s9 (3 : Int) with
                            | some y23 => (bif decide ((↑y23.toNat : Int) < (128 : Int)) then
                              kk (V.bool false) ([])
                            else (match idx s9 (3 : Int) with
                                | some y24 => (bif decide ((191 : Int) < (↑y24.toNat : Int)) then
                                  kk (V.bool false) ([])
                                else (bif decide ((0 : Int) ≤ (4 : Int) ∧ (4 : Int) ≤ (↑s9.length : Int) ∧ (↑s9.length : Int) ≤ (↑s9.length : Int) ∧ (↑s9.length : Int) ≤ (↑s9.length : Int)) then
                                    J f64t1 (f64s0 (List.take ((↑s9.length : Int).toNat - Int.toNat (4 : Int)) (List.drop (Int.toNat (4 : Int)) s9)))
                                  else none))
                                | none => none))
                            | none => none))
                        | none => none))
                    | none => none))
                | none => none))
            | none => none))
      else kk (V.bool false) ([])))) := by kernel_rfl
theorem f64_5 {R : Type} (J : List Item → St → Option R) (kk : V → List Ob → Option R) (s12 : List UInt8) :
  vseg (E5 8) f64cuts 0 J (vend (E5 8) 0 (fb Tryd.f64).1.results.toList false kk) 100000 true f64t9 (f64s5 s12) =
  (bif decide ((32 : Int) < (↑s12.length : Int)) then
    (bif decide ((8 : Nat) ≤ s12.length) then
      (bif decide ((0 : Int) ≤ (8 : Int) ∧ (8 : Int) ≤ (↑s12.length : Int) ∧ (↑s12.length : Int) ≤ (↑s12.length : Int) ∧ (↑s12.length : Int) ≤ (↑s12.length : Int)) then
        (bif decide ((8 : Nat) ≤ (List.take ((↑s12.length : Int).toNat - Int.toNat (8 : Int)) (List.drop (Int.toNat (8 : Int)) s12)).length) then
          (bif decide ((0 : Int) ≤ (16 : Int) ∧ (16 : Int) ≤ (↑s12.length : Int) ∧ (↑s12.length : Int) ≤ (↑s12.length : Int) ∧ (↑s12.length : Int) ≤ (↑s12.length : Int)) then
            (bif decide ((8 : Nat) ≤ (List.take ((↑s12.length : Int).toNat - Int.toNat (16 : Int)) (List.drop (Int.toNat (16 : Int)) s12)).length) then
              (bif decide ((0 : Int) ≤ (24 : Int) ∧ (24 : Int) ≤ (↑s12.length : Int) ∧ (↑s12.length : Int) ≤ (↑s12.length : Int) ∧ (↑s12.length : Int) ≤ (↑s12.length : Int)) then
                (bif decide ((8 : Nat) ≤ (List.take ((↑s12.length : Int).toNat - Int.toNat (24 : Int)) (List.drop (Int.toNat (24 : Int)) s12)).length) then
                  (bif decide (bitop BinOp.and IntKind.u64 (bitop BinOp.or IntKind.u64 (bitop BinOp.or IntKind.u64 (word8 s12) (word8 (List.take ((↑s12.length : Int).toNat - Int.toNat (8 : Int)) (List.drop (Int.toNat (8 : Int)) s12)))) (bitop BinOp.or IntKind.u64 (word8 (List.take ((↑s12.length : Int).toNat - Int.toNat (16 : Int)) (List.drop (Int.toNat (16 : Int)) s12))) (word8 (List.take ((↑s12.length : Int).toNat - Int.toNat (24 : Int)) (List.drop (Int.toNat (24 : Int)) s12))))) (9259542123273814144 : Int) = (0 : Int)) then
                    (bif decide ((0 : Int) ≤ (32 : Int) ∧ (32 : Int) ≤ (↑s12.length : Int) ∧ (↑s12.length : Int) ≤ (↑s12.length : Int) ∧ (↑s12.length : Int) ≤ (↑s12.length : Int)) then
                      J f64t9 (f64s5 (List.take ((↑s12.length : Int).toNat - Int.toNat (32 : Int)) (List.drop (Int.toNat (32 : Int)) s12)))
                    else none)
                  else J f64t1 (f64s0 (s12)))
                else none)
              else none)
            else none)
          else none)
        else none)
      else none)
    else none)
  else J f64t1 (f64s0 (s12))) := by kernel_rfl

noncomputable abbrev f82cuts : Cuts := look [(2, [1, 2, 10])]
noncomputable abbrev f82t2 : List Item := itemsAt (fb Tryd.f82).2 2
def f82s0 (s1 : List UInt8) (p2 : Nat) : St := { fr := [(1, V.fn 63 [] []), (2, V.bool true), (10, V.ref 0 0 0 0)], hp := [(0, Ob.iter s1 p2)], nx := 1 }
theorem f82_go {R : Type} (J : List Item → St → Option R) (kk : V → List Ob → Option R) (s : List UInt8) :
  vseg (E5 8) f82cuts 0 J (vend (E5 8) 0 (fb Tryd.f82).1.results.toList false kk) 100000 true [.code (fb Tryd.f82).2] (start ([V.str s, V.fn (63 : Nat) [] [], V.bool true]) ([])) =
  J f82t2 (f82s0 (s) 0) := by kernel_rfl
theorem f82_0 {R : Type} (J : List Item → St → Option R) (kk : V → List Ob → Option R) (s1 : List UInt8) (p2 : Nat) :
  vseg (E5 8) f82cuts 0 J (vend (E5 8) 0 (fb Tryd.f82).1.results.toList false kk) 100000 true f82t2 (f82s0 s1 p2) =
  (bif decide (p2 < s1.length) then
    (bif decide ((↑(Utf8.decode { data := s1.toArray } p2).fst : Int) < (32 : Int)) then
      kk (V.int IntKind.i64 (↑p2 : Int)) ([])
    else (bif decide ((↑(Utf8.decode { data := s1.toArray } p2).fst : Int) = (127 : Int)) == true then
        kk (V.int IntKind.i64 (↑p2 : Int)) ([])
      else J f82t2 (f82s0 (s1) (p2 + (Utf8.decode { data := s1.toArray } p2).snd))))
  else kk (V.int IntKind.i64 ((-1 : Int))) ([])) := by kernel_rfl

noncomputable abbrev f66cuts : Cuts := look [(2, [0, 1, 7, 8])]
noncomputable abbrev f66t2 : List Item := itemsAt (fb Tryd.f66).2 2
def f66s0 (s : List Int) (n1 : Int) : St := { fr := [(0, V.sl rI s), (1, V.fn 67 [] []), (7, V.int IntKind.i64 (↑s.length : Int)), (8, V.int IntKind.i64 n1)], hp := [], nx := 0 }
theorem f66_go {R : Type} (J : List Item → St → Option R) (kk : V → List Ob → Option R) (s : List Int) :
  vseg (E5 8) f66cuts 0 J (vend (E5 8) 0 (fb Tryd.f66).1.results.toList false kk) 100000 true [.code (fb Tryd.f66).2] (start ([V.sl rI s, V.fn (67 : Nat) [] []]) ([])) =
  J f66t2 (f66s0 (s) (0 : Int)) := by kernel_rfl
theorem f66_0 {R : Type} (J : List Item → St → Option R) (kk : V → List Ob → Option R) (s : List Int) (n1 : Int) :
  vseg (E5 8) f66cuts 0 J (vend (E5 8) 0 (fb Tryd.f66).1.results.toList false kk) 100000 true f66t2 (f66s0 s n1) =
  (bif decide (n1 < (↑s.length : Int)) then
    (bif decide ((0 : Int) < n1) then
      (match idx s n1 with
        | some y2 => (match idx s (IntKind.i64.wrap (n1 - (1 : Int))) with
          | some y3 => (bif !decide (y3 < y2) then
            kk (V.bool false) ([])
          else J f66t2 (f66s0 (s) (IntKind.i64.wrap (n1 + (1 : Int)))))
          | none => none)
        | none => none)
    else J f66t2 (f66s0 (s) (IntKind.i64.wrap (n1 + (1 : Int)))))
  else kk (V.bool true) ([])) := by kernel_rfl

noncomputable abbrev f68cuts : Cuts := look [(2, [0, 1, 7, 8])]
noncomputable abbrev f68t2 : List Item := itemsAt (fb Tryd.f68).2 2
def f68s0 (s : List Int) (n1 : Int) : St := { fr := [(0, V.sl rI s), (1, V.fn 47 [] []), (7, V.int IntKind.i64 (↑s.length : Int)), (8, V.int IntKind.i64 n1)], hp := [], nx := 0 }
theorem f68_go {R : Type} (J : List Item → St → Option R) (kk : V → List Ob → Option R) (s : List Int) :
  vseg (E5 8) f68cuts 0 J (vend (E5 8) 0 (fb Tryd.f68).1.results.toList false kk) 100000 true [.code (fb Tryd.f68).2] (start ([V.sl rI s, V.fn (47 : Nat) [] []]) ([])) =
  J f68t2 (f68s0 (s) (0 : Int)) := by kernel_rfl
theorem f68_0 {R : Type} (J : List Item → St → Option R) (kk : V → List Ob → Option R) (s : List Int) (n1 : Int) :
  vseg (E5 8) f68cuts 0 J (vend (E5 8) 0 (fb Tryd.f68).1.results.toList false kk) 100000 true f68t2 (f68s0 s n1) =
  (bif decide (n1 < (↑s.length : Int)) then
    (match idx s n1 with
      | some y2 => (bif !decide (y2 = (4 : Int)) then
        kk (V.int IntKind.i64 n1) ([])
      else J f68t2 (f68s0 (s) (IntKind.i64.wrap (n1 + (1 : Int)))))
      | none => none)
  else kk (V.int IntKind.i64 ((-1 : Int))) ([])) := by kernel_rfl

end Vm.S07

open Go Go.Proofs
namespace Vm.S07
theorem sgn_eq (a b : Int) : sgn a b = if a < b then -1 else if b < a then 1 else 0 := rfl
theorem f51_run {R : Type} (kk : V → List Ob → Option R) (p q : Pt) :
    vrun (E5 8) f51cuts 0 100000 (vend (E5 8) 0 (fb Tryd.f51).1.results.toList false kk) 1 [.code (fb Tryd.f51).2] (start [enc true rPitch p, enc true rPitch q] []) = kk (.int .i64 (Pt.cmp p q)) [] := by
  rw [vrun_succ, f51_go]
  cases hp : Pt.right p with
  | false => simp [Pt.cmp, hp]
  | true =>
    cases hq : Pt.right q with
    | false => simp [Pt.cmp, hq]
    | true =>
      simp only [Pt.mild_of hp, Pt.mild_of hq, Pt.cmp, hp, hq, Bool.not_true, cond_false, cond_true, Bool.and_self, if_true]
      by_cases h1 : sgn p.num q.num = 0
      · by_cases h2 : sgn p.line q.line = 0 <;> simp [h1, h2]
      · simp [h1]
theorem f76_run {R : Type} (kk : V → List Ob → Option R) (p q : Pt) :
    vrun (E5 8) f76cuts 0 100000 (vend (E5 8) 0 (fb Tryd.f76).1.results.toList false kk) 1 [.code (fb Tryd.f76).2] (start [enc true rPitch p, enc true rPitch q] []) = kk (.int .i64 (Pt.cmp p q)) [] := by
  rw [vrun_succ, f76_go]
  cases hp : Pt.right p with
  | false => simp [Pt.cmp, hp]
  | true =>
    cases hq : Pt.right q with
    | false => simp [Pt.cmp, hq]
    | true =>
      have a := (Pt.right_iff p).1 hp
      have b := (Pt.right_iff q).1 hq
      have c1 : Pt.line p = 7 * p.2.2 + p.1 := rfl
      have c2 : Pt.line q = 7 * q.2.2 + q.1 := rfl
      simp only [Pt.cmp, hp, hq, cond_true, Bool.and_self, if_true, decide_true, Bool.not_true, cond_false]
      have e1 := w64 (n := q.num - p.num) (by omega) (by omega)
      have e2 := w64 (n := q.line - p.line) (by omega) (by omega)
      simp only [e1, e2, bif_ki]
      refine congrArg (fun b => kk (V.int .i64 b) []) ?_
      simp only [sgn, Bool.cond_eq_ite, decide_eq_true_eq]
      repeat' split
      all_goals first | rfl | omega

/-! #### characters -/
theorem u8w (a : UInt8) : IntKind.wrap .i64 (a.toNat : Int) = U.by a := by
  have := a.toNat_lt
  exact w64 (by omega) (by omega)
end Vm.S07

open Go Go.Proofs
namespace Vm.S07
noncomputable abbrev vr72 {R : Type} (kk : V → List Ob → Option R) (n : Nat) (t : List Item) (s : St) : Option R := vrun (E5 8) f64cuts 0 100000 (vend (E5 8) 0 (fb Tryd.f64).1.results.toList false kk) n t s
section
variable {R : Type} (kk : V → List Ob → Option R)
theorem f64_t9 (L : Nat) (h1 : ∀ s : List UInt8, s.length ≤ L → ∀ N, 8 * s.length + 1 ≤ N → vr72 kk N f64t1 (f64s0 s) = kk (.bool (U.valid s)) []) : ∀ (l : Nat), l ≤ L → ∀ s : List UInt8, s.length ≤ l → ∀ N, 8 * s.length + 2 ≤ N → vr72 kk N f64t9 (f64s5 s) = kk (.bool (U.valid s)) [] := by
  intro l
  induction l with
  | zero =>
    intro hl s hs N hN
    obtain ⟨N, rfl⟩ : ∃ M, N = M + 1 := ⟨N - 1, by omega⟩
    rw [vr72, vrun_succ, f64_5, bif_neg (by exact decide_eq_false (by omega))]
    exact h1 s (by omega) N (by omega)
  | succ l ih =>
    intro hl s hs N hN
    obtain ⟨N, rfl⟩ : ∃ M, N = M + 1 := ⟨N - 1, by omega⟩
    rw [vr72, vrun_succ, f64_5]
    by_cases h32 : (32 : Int) < (s.length : Int)
    · rw [bif_pos (decide_eq_true h32), td s 8 8 rfl, td s 16 16 rfl, td s 24 24 rfl, td s 32 32 rfl]
      rw [bif_pos (by exact decide_eq_true (by omega)), bif_pos (by exact decide_eq_true (by omega)), bif_pos (by exact decide_eq_true (by rw [List.length_drop]; omega)), bif_pos (by exact decide_eq_true (by omega)), bif_pos (by exact decide_eq_true (by rw [List.length_drop]; omega)), bif_pos (by exact decide_eq_true (by omega)), bif_pos (by exact decide_eq_true (by rw [List.length_drop]; omega))]
      by_cases hz : bitop BinOp.and IntKind.u64 (bitop BinOp.or IntKind.u64 (bitop BinOp.or IntKind.u64 (word8 s) (word8 (s.drop 8))) (bitop BinOp.or IntKind.u64 (word8 (s.drop 16)) (word8 (s.drop 24)))) (9259542123273814144 : Int) = (0 : Int)
      · rw [bif_pos (decide_eq_true hz), bif_pos (by exact decide_eq_true (by omega))]
        have hz := and_zero hz
        simp only [bit_or] at hz
        obtain ⟨q1, q2⟩ := or_and_zero hz
        obtain ⟨q1, q1'⟩ := or_and_zero q1
        obtain ⟨q2, q2'⟩ := or_and_zero q2
        have e1 := U.valid_low 8 s (word8_low (by omega) q1) (by omega)
        have e2 := U.valid_low 8 (s.drop 8) (word8_low (by rw [List.length_drop]; omega) q1') (by rw [List.length_drop]; omega)
        have e3 := U.valid_low 8 (s.drop 16) (word8_low (by rw [List.length_drop]; omega) q2) (by rw [List.length_drop]; omega)
        have e4 := U.valid_low 8 (s.drop 24) (word8_low (by rw [List.length_drop]; omega) q2') (by rw [List.length_drop]; omega)
        simp only [List.drop_drop] at e2 e3 e4
        rw [e1, e2, e3, e4]
        exact ih (by omega) (s.drop 32) (by rw [List.length_drop]; omega) N (by rw [List.length_drop]; omega)
      · rw [bif_neg (decide_eq_false hz)]
        exact h1 s (by omega) N (by omega)
    · rw [bif_neg (decide_eq_false h32)]
      exact h1 s (by omega) N (by omega)

theorem f64_t7 (L : Nat) (h1 : ∀ s : List UInt8, s.length ≤ L → ∀ N, 8 * s.length + 1 ≤ N → vr72 kk N f64t1 (f64s0 s) = kk (.bool (U.valid s)) []) (s : List UInt8) (hs : s.length ≤ L) (N : Nat) (hN : 8 * s.length + 3 ≤ N) : vr72 kk N f64t7 (f64s3 s) = kk (.bool (U.valid s)) [] := by
  obtain ⟨N, rfl⟩ : ∃ M, N = M + 1 := ⟨N - 1, by omega⟩
  rw [vr72, vrun_succ, f64_3]
  by_cases h16 : (16 : Int) < (s.length : Int)
  · rw [bif_pos (decide_eq_true h16), td s 8 8 rfl, td s 16 16 rfl]
    rw [bif_pos (by exact decide_eq_true (by omega)), bif_pos (by exact decide_eq_true (by omega)), bif_pos (by exact decide_eq_true (by rw [List.length_drop]; omega))]
    by_cases hz : bitop BinOp.and IntKind.u64 (bitop BinOp.or IntKind.u64 (word8 s) (word8 (s.drop 8))) (9259542123273814144 : Int) = (0 : Int)
    · rw [bif_pos (decide_eq_true hz), bif_pos (by exact decide_eq_true (by omega))]
      have hz := and_zero hz
      simp only [bit_or] at hz
      obtain ⟨q1, q2⟩ := or_and_zero hz
      have e1 := U.valid_low 8 s (word8_low (by omega) q1) (by omega)
      have e2 := U.valid_low 8 (s.drop 8) (word8_low (by rw [List.length_drop]; omega) q2) (by rw [List.length_drop]; omega)
      simp only [List.drop_drop] at e2
      rw [e1, e2]
      exact f64_t9 kk L h1 L (Nat.le_refl _) (s.drop 16) (by rw [List.length_drop]; omega) N (by rw [List.length_drop]; omega)
    · rw [bif_neg (decide_eq_false hz)]
      exact h1 s (by omega) N (by omega)
  · rw [bif_neg (decide_eq_false h16)]
    exact h1 s (by omega) N (by omega)

theorem f64_t5 (L : Nat) (h1 : ∀ s : List UInt8, s.length ≤ L → ∀ N, 8 * s.length + 1 ≤ N → vr72 kk N f64t1 (f64s0 s) = kk (.bool (U.valid s)) []) (s : List UInt8) (hs : s.length ≤ L) (N : Nat) (hN : 8 * s.length + 4 ≤ N) : vr72 kk N f64t5 (f64s1 s) = kk (.bool (U.valid s)) [] := by
  obtain ⟨N, rfl⟩ : ∃ M, N = M + 1 := ⟨N - 1, by omega⟩
  rw [vr72, vrun_succ, f64_1]
  by_cases h8 : (8 : Int) < (s.length : Int)
  · rw [bif_pos (decide_eq_true h8), td s 8 8 rfl, bif_pos (by exact decide_eq_true (by omega))]
    by_cases hz : bitop BinOp.and IntKind.u64 (word8 s) (9259542123273814144 : Int) = (0 : Int)
    · rw [bif_pos (decide_eq_true hz), bif_pos (by exact decide_eq_true (by omega))]
      rw [U.valid_low 8 s (word8_low (by omega) (and_zero hz)) (by omega)]
      exact f64_t7 kk L h1 (s.drop 8) (by rw [List.length_drop]; omega) N (by rw [List.length_drop]; omega)
    · rw [bif_neg (decide_eq_false hz)]
      exact h1 s (by omega) N (by omega)
  · rw [bif_neg (decide_eq_false h8)]
    exact h1 s (by omega) N (by omega)

theorem f64_t1 : ∀ (L : Nat) (s : List UInt8), s.length ≤ L → ∀ N, 8 * s.length + 1 ≤ N → vr72 kk N f64t1 (f64s0 s) = kk (.bool (U.valid s)) [] := by
  intro L
  induction L with
  | zero =>
    intro s hs N hN
    obtain ⟨N, rfl⟩ : ∃ M, N = M + 1 := ⟨N - 1, by omega⟩
    rw [vr72, vrun_succ, f64_0, bif_neg (by exact decide_eq_false (by omega))]
    obtain rfl : s = [] := List.length_eq_zero_iff.1 (by omega)
    rw [U.valid_nil]
  | succ L h1 =>
    intro s hs N hN
    obtain ⟨N, rfl⟩ : ∃ M, N = M + 1 := ⟨N - 1, by omega⟩
    rw [vr72, vrun_succ, f64_0]
    match s, hs, hN with
    | [], hs, hN => rw [bif_neg (by exact decide_eq_false (by simp)), U.valid_nil]
    | a :: r, hs, hN =>
      have hi : idx (a :: r) 0 = some a := rfl
      rw [bif_pos (by exact decide_eq_true (by simp only [List.length_cons]; omega)), hi]
      dsimp only
      by_cases ha : (a.toNat : Int) < 128
      · have e : U.cls (U.by a) = (1, 0, 0) := by simp only [U.cls]; rw [if_pos (by simp only [U.by]; omega)]
        rw [bif_pos (decide_eq_true ha), bif_pos (by exact decide_eq_true (by simp only [List.length_cons]; omega)), td (a :: r) 1 1 rfl, U.valid_step (by simp) (by rw [U.rune_low e]; decide), U.rune_low e]
        exact f64_t5 kk L h1 r (by simpa using hs) N (by simp only [List.length_cons] at hN; omega)
      · rw [bif_neg (decide_eq_false ha)]
        obtain ⟨N, rfl⟩ : ∃ M, N = M + 2 := ⟨N - 2, by simp only [List.length_cons] at hN; omega⟩
        have ht := U.tab_eq a (by simp only [U.by]; omega)
        simp only [U.tab, U.by] at ht
        rw [vrun_succ, f64_2]
        revert ht
        cases idx utf8First (a.toNat : Int) with
        | none => intro ht; cases ht
        | some y =>
          dsimp only
          cases idx utf8Accept (y.fdiv ((2 : Int) ^ min (Int.toNat (4 : Int)) IntKind.u8.bits)) with
          | none => intro ht; cases ht
          | some z =>
            dsimp only
            intro ht
            have ht := Option.some.inj ht
            have hN' : 8 * r.length + 6 ≤ N + 2 := by simp only [List.length_cons] at hN; omega
            have hr : r.length ≤ L := by simpa using hs
            have hbi : ∀ x : UInt8, (0 : Int) ≤ U.by x := fun x => by simp [U.by]
            rcases U.cls_cases a with ⟨h3, e⟩ | ⟨h3, e⟩ | ⟨h3, e⟩ | ⟨h3, e⟩ | ⟨h3, e⟩ | ⟨h3, e⟩ | ⟨h3, e⟩ | ⟨h3, e⟩ | ⟨h3, e⟩
            · simp only [U.by] at h3; exact absurd h3 ha
            · have e' := e
              simp only [U.by] at e'
              rw [e', show U.tv (0, 0, 0) = (1, 0, 0) from rfl] at ht
              rw [vrun_succ, f64_4, U.valid_bad (by simp) (U.rune_bad e)]
              rw [show IntKind.i64.wrap (bitop BinOp.and IntKind.u8 y 7) = 1 from congrArg (·.1) ht]
              rfl
            · have e' := e
              simp only [U.by] at e'
              rw [e', U.tv, if_neg (by decide)] at ht
              rw [vrun_succ, f64_4, show IntKind.i64.wrap (bitop BinOp.and IntKind.u8 y 7) = 2 from congrArg (·.1) ht, show z = (128, 191) from congrArg (·.2) ht]
              match r with
              | [] => rw [U.valid_bad (by simp) (U.rune_short1 e (by decide))]; rfl
              | b :: r =>
                have i1 : idx (a :: b :: r) 1 = some b := rfl
                rw [bif_pos (by rfl), bif_neg (by exact decide_eq_false (by simp only [List.length_cons]; omega)), i1]
                dsimp only
                by_cases c1 : 128 ≤ U.by b ∧ U.by b ≤ 191
                · have v : U.rune (a :: b :: r) = 2 := by rw [U.rune_two e, if_pos c1]
                  simp only [U.by] at c1
                  rw [bif_neg (by exact decide_eq_false (by omega)), bif_neg (by exact decide_eq_false (by omega)), bif_pos (by exact decide_eq_true (by simp only [List.length_cons]; omega)), td (a :: b :: r) 2 2 rfl, U.valid_step (by simp) (by rw [v]; decide), v]
                  exact h1 r (by simp only [List.length_cons] at hr; omega) N (by simp only [List.length_cons] at hN'; omega)
                · rw [U.valid_bad (by simp) (by rw [U.rune_two e, if_neg c1])]
                  simp only [U.by] at c1
                  by_cases c2 : (b.toNat : Int) < 128
                  · rw [bif_pos (decide_eq_true c2)]
                  · rw [bif_neg (decide_eq_false c2), bif_pos (by exact decide_eq_true (by omega))]
            all_goals
              have e' := e
              simp only [U.by] at e'
              rw [e', U.tv, if_neg (by decide)] at ht
              have z1 := congrArg (·.1) ht
              have z2 := congrArg (·.2) ht
              dsimp only at z1 z2
              rw [vrun_succ, f64_4, z1, z2]
              clear z1 z2 ht
              match r with
              | [] => rw [U.valid_bad (by simp) (U.rune_short1 e (by decide))]; rfl
              | [b] => rw [U.valid_bad (by simp) (U.rune_short2 e (by decide) (by decide))]; rfl
              | b :: c :: r =>
                have i1 : idx (a :: b :: c :: r) 1 = some b := rfl
                have i2 : idx (a :: b :: c :: r) 2 = some c := rfl
                have hb0 := hbi b
                have hc0 := hbi c
                have hb1 : U.by b = (b.toNat : Int) := rfl
                have hc1 : U.by c = (c.toNat : Int) := rfl
                first
                | (rw [bif_neg (by rfl), bif_pos (by rfl), bif_neg (by exact decide_eq_false (by simp only [List.length_cons]; omega)), i1]
                   have q := U.rune_three (r := r) (b := b) (c := c) e
                   dsimp only
                   split at q
                   · rename_i c1
                     obtain ⟨c1, c2⟩ := c1
                     have c2 := of_decide_eq_true c2
                     rw [bif_neg (by exact decide_eq_false (by omega)), bif_neg (by exact decide_eq_false (by omega)), i2]
                     dsimp only
                     rw [bif_neg (by exact decide_eq_false (by omega)), bif_neg (by exact decide_eq_false (by omega)), bif_pos (by exact decide_eq_true (by simp only [List.length_cons]; omega)), td (a :: b :: c :: r) 3 3 rfl, U.valid_step (by simp) (by rw [q]; decide), q]
                     exact h1 r (by simp only [List.length_cons] at hr; omega) N (by simp only [List.length_cons] at hN'; omega)
                   · rename_i c1
                     rw [U.valid_bad (by simp) q]
                     simp only [Bool.cond_eq_ite, decide_eq_true_eq]
                     split
                     · rfl
                     split
                     · rfl
                     rw [i2]
                     dsimp only
                     split
                     · rfl
                     split
                     · rfl
                     exact absurd ⟨⟨by omega, by omega⟩, decide_eq_true (by omega)⟩ c1)
                | (match r with
                   | [] => rw [U.valid_bad (by simp) (U.rune_short3 e (by decide) (by decide) (by decide))]; rfl
                   | d :: r =>
                   have i1 : idx (a :: b :: c :: d :: r) 1 = some b := rfl
                   have i2 : idx (a :: b :: c :: d :: r) 2 = some c := rfl
                   have i3 : idx (a :: b :: c :: d :: r) 3 = some d := rfl
                   have hd0 := hbi d
                   have hd1 : U.by d = (d.toNat : Int) := rfl
                   rw [bif_neg (by rfl), bif_neg (by rfl), bif_pos (by rfl), bif_neg (by exact decide_eq_false (by simp only [List.length_cons]; omega)), i1]
                   have q := U.rune_four (r := r) (b := b) (c := c) (d := d) e
                   dsimp only
                   split at q
                   · rename_i c1
                     obtain ⟨c1, c2, c3⟩ := c1
                     have c2 := of_decide_eq_true c2
                     have c3 := of_decide_eq_true c3
                     rw [bif_neg (by exact decide_eq_false (by omega)), bif_neg (by exact decide_eq_false (by omega)), i2]
                     dsimp only
                     rw [bif_neg (by exact decide_eq_false (by omega)), bif_neg (by exact decide_eq_false (by omega)), i3]
                     dsimp only
                     rw [bif_neg (by exact decide_eq_false (by omega)), bif_neg (by exact decide_eq_false (by omega)), bif_pos (by exact decide_eq_true (by simp only [List.length_cons]; omega)), td (a :: b :: c :: d :: r) 4 4 rfl, U.valid_step (by simp) (by rw [q]; decide), q]
                     exact h1 r (by simp only [List.length_cons] at hr; omega) N (by simp only [List.length_cons] at hN'; omega)
                   · rename_i c1
                     rw [U.valid_bad (by simp) q]
                     simp only [Bool.cond_eq_ite, decide_eq_true_eq]
                     split
                     · rfl
                     split
                     · rfl
                     rw [i2]
                     dsimp only
                     split
                     · rfl
                     split
                     · rfl
                     rw [i3]
                     dsimp only
                     split
                     · rfl
                     split
                     · rfl
                     exact absurd ⟨⟨by omega, by omega⟩, decide_eq_true (by omega), decide_eq_true (by omega)⟩ c1)
end
theorem f64_run {R : Type} (kk : V → List Ob → Option R) (s : List UInt8) :
    ∃ n, vrun (E5 8) f64cuts 0 100000 (vend (E5 8) 0 (fb Tryd.f64).1.results.toList false kk) n [.code (fb Tryd.f64).2] (start [.str s] []) = kk (.bool (U.valid s)) [] := by
  refine ⟨8 * s.length + 1 + 1, ?_⟩
  rw [vrun_succ, f64_go]
  exact f64_t1 kk s.length s (Nat.le_refl _) _ (Nat.le_refl _)
end Vm.S07

open Go Go.Proofs
namespace Vm.S07
theorem f82_loop {R : Type} (kk : V → List Ob → Option R) (s : List UInt8) : ∀ (L p : Nat), s.length ≤ p + L →
    vrun (E5 8) f82cuts 0 100000 (vend (E5 8) 0 (fb Tryd.f82).1.results.toList false kk) (L + 1) f82t2 (f82s0 s p) = kk (.int .i64 (U.oddAt s L p)) [] := by
  intro L
  induction L with
  | zero => intro p hp; rw [vrun_succ, f82_0, bif_neg (by exact decide_eq_false (by omega))]; rfl
  | succ L ih =>
    intro p hp
    have hd : Utf8.decode ⟨s.toArray⟩ p = dec (s.drop p) := decode_drop s p
    rw [vrun_succ, f82_0, hd]
    unfold U.oddAt
    by_cases h0 : p < s.length
    · rw [bif_pos (decide_eq_true h0), if_pos h0]
      by_cases c1 : ((dec (s.drop p)).1 : Int) < 32
      · rw [bif_pos (decide_eq_true c1), if_pos (Or.inl c1)]
      · rw [bif_neg (decide_eq_false c1)]
        by_cases c2 : ((dec (s.drop p)).1 : Int) = 127
        · rw [bif_pos (by rw [decide_eq_true c2]; rfl), if_pos (Or.inr c2)]
        · rw [bif_neg (by rw [decide_eq_false c2]; rfl), if_neg (by omega)]
          have := dec_pos (s.drop p)
          exact ih _ (by omega)
    · rw [bif_neg (decide_eq_false h0), if_neg h0]
theorem f82_run {R : Type} (kk : V → List Ob → Option R) (s : List UInt8) :
    vrun (E5 8) f82cuts 0 100000 (vend (E5 8) 0 (fb Tryd.f82).1.results.toList false kk) (s.length + 1 + 1) [.code (fb Tryd.f82).2] (start [.str s, .fn 63 [] [], .bool true] []) = kk (.int .i64 (U.oddAt s s.length 0)) [] := by
  rw [vrun_succ, f82_go]
  exact f82_loop kk s s.length 0 (by omega)

/-! #### loops over marks -/
theorem f66_loop {R : Type} (kk : V → List Ob → Option R) (l : List Int) (hb : l.length < 4611686018427387904) : ∀ (d i : Nat), i + d = l.length →
    vrun (E5 8) f66cuts 0 100000 (vend (E5 8) 0 (fb Tryd.f66).1.results.toList false kk) (d + 1) f66t2 (f66s0 l i) = kk (.bool (risesI (l.drop (i - 1)))) [] := by
  intro d
  induction d with
  | zero =>
    intro i hi
    rw [vrun_succ, f66_0, bif_neg (by exact decide_eq_false (by omega)), risesI_short (by rw [List.length_drop]; omega)]
  | succ d ih =>
    intro i hi
    have hlt : i < l.length := by omega
    rw [vrun_succ, f66_0, bif_pos (by exact decide_eq_true (by omega)), wrap_succ (by omega), ih (i + 1) (by omega)]
    match i, hi, hlt with
    | 0, hi, hlt => rw [bif_neg (by exact decide_eq_false (by omega))]
    | i + 1, hi, hlt =>
      rw [bif_pos (by exact decide_eq_true (by omega)), w64 (n := ((i + 1 : Nat) : Int) - 1) (by omega) (by omega), idx_nat, idx_get l _ i (by omega), List.getElem?_eq_getElem hlt, List.getElem?_eq_getElem (by omega : i < l.length)]
      dsimp only
      rw [show i + 1 - 1 = i from rfl, show i + 1 + 1 - 1 = i + 1 from rfl, risesI_drop l i hlt]
      by_cases h : l[i] < l[i + 1]
      · rw [bif_neg (by simp [h]), decide_eq_true h, Bool.true_and]
      · rw [bif_pos (by simp; omega), decide_eq_false h, Bool.false_and]
theorem f66_run {R : Type} (kk : V → List Ob → Option R) (l : List Int) (hb : l.length < 4611686018427387904) :
    ∃ n, vrun (E5 8) f66cuts 0 100000 (vend (E5 8) 0 (fb Tryd.f66).1.results.toList false kk) n [.code (fb Tryd.f66).2] (start [enc false (.cons (.sl rI) .nil) l, .fn 67 [] []] []) = kk (.bool (risesI l)) [] := by
  refine ⟨l.length + 1 + 1, ?_⟩
  rw [vrun_succ]
  refine (f66_go _ kk l).trans ?_
  exact f66_loop kk l hb l.length 0 (by omega)

theorem f68_loop {R : Type} (kk : V → List Ob → Option R) (l : List Int) (hb : l.length < 4611686018427387904) : ∀ (d i : Nat), i + d = l.length →
    vrun (E5 8) f68cuts 0 100000 (vend (E5 8) 0 (fb Tryd.f68).1.results.toList false kk) (d + 1) f68t2 (f68s0 l i) = kk (.int .i64 (notFour (l.drop i) i)) [] := by
  intro d
  induction d with
  | zero =>
    intro i hi
    rw [vrun_succ, f68_0, bif_neg (by exact decide_eq_false (by omega)), List.drop_eq_nil_of_le (by omega)]; rfl
  | succ d ih =>
    intro i hi
    have hlt : i < l.length := by omega
    rw [vrun_succ, f68_0, bif_pos (by exact decide_eq_true (by omega)), idx_nat, List.getElem?_eq_getElem hlt, wrap_succ (by omega), ih (i + 1) (by omega), List.drop_eq_getElem_cons hlt]
    dsimp only [notFour]
    by_cases h : l[i] = 4
    · rw [bif_neg (by simp [h]), if_pos h]
    · rw [bif_pos (by simp [h]), if_neg h]
theorem f68_run {R : Type} (kk : V → List Ob → Option R) (l : List Int) (hb : l.length < 4611686018427387904) :
    ∃ n, vrun (E5 8) f68cuts 0 100000 (vend (E5 8) 0 (fb Tryd.f68).1.results.toList false kk) n [.code (fb Tryd.f68).2] (start [enc false (.cons (.sl rI) .nil) l, .fn 47 [] []] []) = kk (.int .i64 (notFour l 0)) [] := by
  refine ⟨l.length + 1 + 1, ?_⟩
  rw [vrun_succ]
  refine (f68_go _ kk l).trans ?_
  exact f68_loop kk l hb l.length 0 (by omega)

noncomputable def f82e : Entry Tryd.prog gls where
  f := 82
  g := fun args os => match args, os with
    | [.str s, .fn g [] [], .bool true], [] => bif Nat.beq g 63 then some (true, .int .i64 (U.oddAt s s.length 0), []) else none
    | _, _ => none
  says := fun args os c v os' h hc => by
    split at h
    · rename_i s g
      cases hb : Nat.beq g 63 with
      | false => rw [hb] at h; cases h
      | true =>
        rw [hb] at h
        obtain rfl := Nat.eq_of_beq_eq_true hb
        cases h
        have hn := f82_run (fun v os => some (v, os)) s
        exact contract_run (fn := (fb Tryd.f82).1) (c := (fb Tryd.f82).2) mixed (ready5 8) (glE5 8) Tryd.func82 (by kernel_rfl) rfl rfl (by kernel_rfl) hn
    · cases h
abbrev srI' : Ks := .cons (.sl rI) .nil
noncomputable def f51e : Entry Tryd.prog gls := .two 51 true rPitch true rPitch (by intro h; cases h <;> rfl) (by intro h; cases h <;> rfl) (fun (x : Pt) (y : Pt) => (true, .int .i64 (Pt.cmp x y))) fun x y h => by
  have _ := h
  have hn := f51_run (fun v os => some (v, os)) x y
  exact contract_run (fn := (fb Tryd.f51).1) (c := (fb Tryd.f51).2) mixed (ready5 8) (glE5 8) Tryd.func51 (by kernel_rfl) rfl rfl (by kernel_rfl) hn

noncomputable def f76e : Entry Tryd.prog gls := .two 76 true rPitch true rPitch (by intro h; cases h <;> rfl) (by intro h; cases h <;> rfl) (fun (x : Pt) (y : Pt) => (true, .int .i64 (Pt.cmp x y))) fun x y h => by
  have _ := h
  have hn := f76_run (fun v os => some (v, os)) x y
  exact contract_run (fn := (fb Tryd.f76).1) (c := (fb Tryd.f76).2) mixed (ready5 8) (glE5 8) Tryd.func76 (by kernel_rfl) rfl rfl (by kernel_rfl) hn

noncomputable def f64e : Entry Tryd.prog gls := .one 64 false rS (by intro h; cases h <;> rfl) (fun (x : List UInt8) => (true, .bool (U.valid x))) fun x h => by
  have _ := h
  obtain ⟨n, hn⟩ := f64_run (fun v os => some (v, os)) x
  exact contract_run (fn := (fb Tryd.f64).1) (c := (fb Tryd.f64).2) mixed (ready5 8) (glE5 8) Tryd.func64 (by kernel_rfl) rfl rfl (by kernel_rfl) hn

noncomputable def f66e : Entry Tryd.prog gls := .oneF 66 false srI' (by intro h; cases h <;> rfl) 67 (fun (x : List Int) => (decide (x.length < 4611686018427387904), .bool (risesI x))) fun x h => by
  have _ := h
  obtain ⟨n, hn⟩ := f66_run (fun v os => some (v, os)) x (of_decide_eq_true h)
  exact contract_run (fn := (fb Tryd.f66).1) (c := (fb Tryd.f66).2) mixed (ready5 8) (glE5 8) Tryd.func66 (by kernel_rfl) rfl rfl (by kernel_rfl) hn

noncomputable def f68e : Entry Tryd.prog gls := .oneF 68 false srI' (by intro h; cases h <;> rfl) 47 (fun (x : List Int) => (decide (x.length < 4611686018427387904), .int .i64 (notFour x 0))) fun x h => by
  have _ := h
  obtain ⟨n, hn⟩ := f68_run (fun v os => some (v, os)) x (of_decide_eq_true h)
  exact contract_run (fn := (fb Tryd.f68).1) (c := (fb Tryd.f68).2) mixed (ready5 8) (glE5 8) Tryd.func68 (by kernel_rfl) rfl rfl (by kernel_rfl) hn

noncomputable def es6 : List (Entry Tryd.prog gls) := [f51e, f76e, f64e, f66e, f68e, f82e] ++ es5
noncomputable def E6 (n : Nat) : Env := interp fns (look tys) gls mvs (tabOf es6) 100000 n
theorem ready6 (n : Nat) : Ready Tryd.prog (E6 n) := ready_of mixed fnsAll tysOk rfsOk n
theorem glE6 (n : Nat) : (E6 n).gl = gls := by cases n <;> rfl
end Vm.S07

