/- Pitches and events up, lengths, as runs of the value machine. -/
import Derived.Test.YtmfbipnhhfpajaaDoorLawC
import Derived.Test.YtmfbipnhhfpajaaDoorVmE
import Derived.KernelRfl
import Derived.Test.YtmfbipnhhfpajaaDoorLawA
import Derived.Test.YtmfbipnhhfpajaaDoorWords
set_option maxRecDepth 100000
open Go Go.Proofs
namespace Vm.S06
noncomputable abbrev f77cuts : Cuts := fun _ => none
theorem f77_go {R : Type} (J : List Item → St → Option R) (kk : V → List Ob → Option R) (n : Int) :
  vseg (E8 8) f77cuts 0 J (vend (E8 8) 0 (fb Tryd.f77).1.results.toList false kk) 100000 true [.code (fb Tryd.f77).2] (start ([V.int IntKind.i64 n]) ([])) =
  (bif decide (n < (0 : Int)) then
    kk (V.int IntKind.u64 (IntKind.u64.wrap ((0 : Int) - IntKind.u64.wrap n))) ([])
  else kk (V.int IntKind.u64 (IntKind.u64.wrap n)) ([])) := by kernel_rfl

end Vm.S06

open Go Go.Proofs
namespace Vm.S06
abbrev rU : Ks := .cons (.int .u64) .nil
def ltB (b : Int) (k : Nat) : Bool := decide (b < k)
structure CommonBelow (k : Nat) : Prop where
  says : ∀ a b : Int, (posB a b && ltB b k) = true → Contract Tryd.prog gls 78 [enc false rU a, enc false rU b] [] (.int .u64 (gcdI a b)) []
def commonE (k : Nat) (ih : CommonBelow k) : Entry Tryd.prog gls := .two 78 false rU false rU (by intro h; cases h <;> rfl) (by intro h; cases h <;> rfl) (fun (a : Int) (b : Int) => (posB a b && ltB b k, .int .u64 (gcdI a b))) fun a b h => ih.says a b h
noncomputable def Ec (k : Nat) (ih : CommonBelow k) (n : Nat) : Env := interp fns (look tys) gls mvs (tabOf [commonE k ih]) 100000 n
theorem common_go (k : Nat) (ih : CommonBelow k) {R : Type} (J : List Item → St → Option R) (kk : V → List Ob → Option R) (a b : Int) :
  vseg (Ec k ih 8) (fun _ => none) 0 J (vend (Ec k ih 8) 0 (fb Tryd.f78).1.results.toList false kk) 100000 true [.code (fb Tryd.f78).2] (start ([.int .u64 a, .int .u64 b]) ([])) =
  (bif decide (b = (0 : Int)) then kk (.int .u64 a) [] else (bif decide (b = (0 : Int)) then none else (bif posB b (a.tmod b) && ltB (a.tmod b) k then kk (.int .u64 (gcdI b (a.tmod b))) [] else none))) := by kernel_rfl
theorem common_below : ∀ k, CommonBelow k := by
  intro k
  induction k with
  | zero => refine ⟨?_⟩; intro a b h; simp only [posB, ltB, Bool.and_eq_true, decide_eq_true_eq] at h; omega
  | succ k ih =>
    refine ⟨?_⟩
    intro a b h
    simp only [posB, ltB, Bool.and_eq_true, decide_eq_true_eq] at h
    obtain ⟨⟨ha, hb⟩, hk⟩ := h
    have hn : vrun (Ec k ih 8) (fun _ => none) 0 100000 (vend (Ec k ih 8) 0 (fb Tryd.f78).1.results.toList false fun v os => some (v, os)) 1 [.code (fb Tryd.f78).2] (start [.int .u64 a, .int .u64 b] []) = some (.int .u64 (gcdI a b), []) := by
      rw [vrun_succ, common_go]
      by_cases h0 : b = 0
      · subst h0; rw [bif_pos (by rfl), gcdI_zero ha]
      · have h1 : 0 ≤ a.tmod b := Int.tmod_nonneg b ha
        have h2 : a.tmod b < b := Int.tmod_lt_of_pos a (by omega)
        rw [bif_neg (decide_eq_false h0), bif_neg (decide_eq_false h0), bif_pos (by simp only [posB, ltB, Bool.and_eq_true, decide_eq_true_eq]; omega), ← gcdI_step ha (by omega)]
    exact contract_run (fn := (fb Tryd.f78).1) (c := (fb Tryd.f78).2) mixed (ready_of mixed fnsAll tysOk 8) rfl Tryd.func78 (by kernel_rfl) rfl rfl (by kernel_rfl) hn
def f78e : Entry Tryd.prog gls := .two 78 false rU false rU (by intro h; cases h <;> rfl) (by intro h; cases h <;> rfl) (fun (a : Int) (b : Int) => (posB a b, .int .u64 (gcdI a b))) fun a b h =>
  (common_below (b.toNat + 1)).says a b (by
    have h' : posB a b = true := h
    rw [h']; simp only [ltB, Bool.true_and, decide_eq_true_eq]
    simp only [posB, decide_eq_true_eq] at h'
    have : (b.toNat : Int) = b := Int.toNat_of_nonneg h'.2
    omega)
theorem f77_run {R : Type} (kk : V → List Ob → Option R) (n : Int) (h : i64B n = true) :
    vrun (E8 8) f77cuts 0 100000 (vend (E8 8) 0 (fb Tryd.f77).1.results.toList false kk) 1 [.code (fb Tryd.f77).2] (start [enc false rI n] []) = kk (.int .u64 (absI n)) [] := by
  rw [vrun_succ]
  refine (f77_go _ kk n).trans ?_
  simp only [i64B, decide_eq_true_eq] at h
  simp only [bif_ki]
  refine congrArg (fun b => kk (V.int .u64 b) []) ?_
  simp only [Bool.cond_eq_ite, decide_eq_true_eq, absI, IntKind.wrap, IntKind.signed, IntKind.bits]
  split
  · simp; omega
  · simp; omega
def f77e : Entry Tryd.prog gls := .one 77 false rI (by intro h; cases h <;> rfl) (fun (x : Int) => (i64B x, .int .u64 (absI x))) fun x h => by
  have _ := h
  have hn := f77_run (fun v os => some (v, os)) x h
  exact contract_run (fn := (fb Tryd.f77).1) (c := (fb Tryd.f77).2) mixed (ready8 8) (glE8 8) Tryd.func77 (by kernel_rfl) rfl rfl (by kernel_rfl) hn

noncomputable def es9 : List (Entry Tryd.prog gls) := [f78e, f77e] ++ es8
noncomputable def E9 (n : Nat) : Env := interp fns (look tys) gls mvs (tabOf es9) 100000 n
theorem ready9 (n : Nat) : Ready Tryd.prog (E9 n) := ready_of mixed fnsAll tysOk n
theorem glE9 (n : Nat) : (E9 n).gl = gls := by cases n <;> rfl
end Vm.S06

open Go Go.Proofs
namespace Vm.S06
noncomputable abbrev f55cuts : Cuts := look [(5, [0, 1, 4, 6, 7, 8]), (6, [0, 1, 4, 6, 7])]
noncomputable abbrev f55t6 : List Item := itemsAt (fb Tryd.f55).2 6
noncomputable abbrev f55t5 : List Item := itemsAt (fb Tryd.f55).2 5
def f55s0 (a : Int) (b : Int) (n1 : Int) (n2 : Int) (n3 : Int) (x4 : Int × Int) : St := { fr := [(0, V.int IntKind.i64 a), (1, V.int IntKind.i64 b), (4, V.ref 0 0 0 0), (6, V.int IntKind.u64 n1), (7, V.int IntKind.u64 n2), (8, V.int IntKind.u64 n3)], hp := [(0, Ob.var [V.int IntKind.i64 x4.fst, V.int IntKind.i64 x4.snd])], nx := 1 }
def f55s1 (a : Int) (b : Int) (n5 : Int) (n6 : Int) (x7 : Int × Int) : St := { fr := [(0, V.int IntKind.i64 a), (1, V.int IntKind.i64 b), (4, V.ref 0 0 0 0), (6, V.int IntKind.u64 n5), (7, V.int IntKind.u64 n6)], hp := [(0, Ob.var [V.int IntKind.i64 x7.fst, V.int IntKind.i64 x7.snd])], nx := 1 }
theorem f55_go {R : Type} (J : List Item → St → Option R) (kk : V → List Ob → Option R) (a : Int) (b : Int) :
  vseg (E9 8) f55cuts 0 J (vend (E9 8) 0 (fb Tryd.f55).1.results.toList false kk) 100000 true [.code (fb Tryd.f55).2] (start ([V.int IntKind.i64 a, V.int IntKind.i64 b]) ([])) =
  (bif decide (b = (0 : Int)) then
    kk (V.tuple [V.agg [V.int IntKind.i64 (0 : Int), V.int IntKind.i64 (0 : Int)], V.int IntKind.i64 (11 : Int)]) ([])
  else (bif i64B a then
      (bif i64B b then
        J f55t5 (f55s0 (a) (b) (absI a) (absI b) (gcdI (absI a) (absI b)) ((0 : Int), (0 : Int)))
      else none)
    else none)) := by kernel_rfl
theorem f55_0 {R : Type} (J : List Item → St → Option R) (kk : V → List Ob → Option R) (a : Int) (b : Int) (n1 : Int) (n2 : Int) (n3 : Int) (x4 : Int × Int) :
  vseg (E9 8) f55cuts 0 J (vend (E9 8) 0 (fb Tryd.f55).1.results.toList false kk) 100000 true f55t5 (f55s0 a b n1 n2 n3 x4) =
  (bif decide (n3 = (0 : Int)) then
    none
  else (bif decide (n3 = (0 : Int)) then
      none
    else J f55t6 (f55s1 (a) (b) (IntKind.u64.wrap (n1.tdiv n3)) (IntKind.u64.wrap (n2.tdiv n3)) (x4)))) := by kernel_rfl
theorem f55_1 {R : Type} (J : List Item → St → Option R) (kk : V → List Ob → Option R) (a : Int) (b : Int) (n5 : Int) (n6 : Int) (x7 : Int × Int) :
  vseg (E9 8) f55cuts 0 J (vend (E9 8) 0 (fb Tryd.f55).1.results.toList false kk) 100000 true f55t6 (f55s1 a b n5 n6 x7) =
  (bif decide ((1000000000 : Int) < if n6 > n5 then n6 else n5) then
    kk (V.tuple [V.agg [V.int IntKind.i64 (0 : Int), V.int IntKind.i64 (0 : Int)], V.int IntKind.i64 (10 : Int)]) ([])
  else (bif !decide (a < (0 : Int)) == decide (b < (0 : Int)) then
      kk (V.tuple [V.agg [V.int IntKind.i64 (IntKind.i64.wrap ((0 : Int) - IntKind.i64.wrap n5)), V.int IntKind.i64 (IntKind.i64.wrap n6)], V.int IntKind.i64 (0 : Int)]) ([])
    else kk (V.tuple [V.agg [V.int IntKind.i64 (IntKind.i64.wrap n5), V.int IntKind.i64 (IntKind.i64.wrap n6)], V.int IntKind.i64 (0 : Int)]) ([]))) := by kernel_rfl

noncomputable abbrev f79cuts : Cuts := look [(2, [0, 1, 7, 8])]
noncomputable abbrev f79t2 : List Item := itemsAt (fb Tryd.f79).2 2
def f79s0 (s : List Bool) (b : Bool) (n1 : Int) : St := { fr := [(0, V.sl rB s), (1, V.bool b), (7, V.int IntKind.i64 (↑s.length : Int)), (8, V.int IntKind.i64 n1)], hp := [], nx := 0 }
theorem f79_go {R : Type} (J : List Item → St → Option R) (kk : V → List Ob → Option R) (s : List Bool) (b : Bool) :
  vseg (E9 8) f79cuts 0 J (vend (E9 8) 0 (fb Tryd.f79).1.results.toList false kk) 100000 true [.code (fb Tryd.f79).2] (start ([V.sl rB s, V.bool b]) ([])) =
  J f79t2 (f79s0 (s) (b) (0 : Int)) := by kernel_rfl
theorem f79_0 {R : Type} (J : List Item → St → Option R) (kk : V → List Ob → Option R) (s : List Bool) (b : Bool) (n1 : Int) :
  vseg (E9 8) f79cuts 0 J (vend (E9 8) 0 (fb Tryd.f79).1.results.toList false kk) 100000 true f79t2 (f79s0 s b n1) =
  (bif decide (n1 < (↑s.length : Int)) then
    (match idx s n1 with
      | some y2 => (bif b == y2 then
        kk (V.int IntKind.i64 n1) ([])
      else J f79t2 (f79s0 (s) (b) (IntKind.i64.wrap (n1 + (1 : Int)))))
      | none => none)
  else kk (V.int IntKind.i64 ((-1 : Int))) ([])) := by kernel_rfl

end Vm.S06

open Go Go.Proofs
namespace Vm.S06
abbrev ratR (x : (Int × Int) × Int) : V := .tuple [enc true rIv x.1, .int .i64 x.2]
theorem wu64 {n : Int} (h₁ : 0 ≤ n) (h₂ : n ≤ 9223372036854775808) : IntKind.wrap .u64 n = n := wrap_small (by simp [IntKind.min, IntKind.signed]; omega) (by simp [IntKind.max, IntKind.signed, IntKind.bits]; omega)
theorem f55_run {R : Type} (kk : V → List Ob → Option R) (a b : Int) (h : (i64B a && i64B b) = true) :
    vrun (E9 8) f55cuts 0 100000 (vend (E9 8) 0 (fb Tryd.f55).1.results.toList false kk) 3 [.code (fb Tryd.f55).2] (start [enc false rI a, enc false rI b] []) = kk (ratR (Rt.of a b)) [] := by
  rw [vrun_succ]
  refine (f55_go _ kk a b).trans ?_
  rw [Bool.and_eq_true] at h
  obtain ⟨ha, hb⟩ := h
  unfold Rt.of
  by_cases h0 : b = 0
  · rw [bif_pos (decide_eq_true h0), if_pos h0]; rfl
  · rw [bif_neg (decide_eq_false h0), bif_pos ha, bif_pos hb, vrun_succ, f55_0, if_neg h0]
    simp only [i64B, decide_eq_true_eq] at ha hb
    have hg := gcdI_pos (a := a) h0
    have da := div_small (absI_nonneg a) hg
    have db := div_small (absI_nonneg b) hg
    have la : absI a ≤ 9223372036854775808 := by simp only [absI]; omega
    have lb : absI b ≤ 9223372036854775808 := by simp only [absI]; omega
    rw [bif_neg (by exact decide_eq_false (by omega)), bif_neg (by exact decide_eq_false (by omega)), Int.tdiv_eq_ediv_of_nonneg (absI_nonneg a), Int.tdiv_eq_ediv_of_nonneg (absI_nonneg b)]
    generalize absI a / gcdI (absI a) (absI b) = n at *
    generalize absI b / gcdI (absI a) (absI b) = d at *
    rw [wu64 (n := n) (by omega) (by omega), wu64 (n := d) (by omega) (by omega), vrun_succ, f55_1]
    by_cases hm : (1000000000 : Int) < if d > n then d else n
    · rw [bif_pos (decide_eq_true hm), if_pos hm]; rfl
    · rw [bif_neg (decide_eq_false hm), if_neg hm]
      have hn : n ≤ 1000000000 ∧ d ≤ 1000000000 := by
        split at hm <;> omega
      rw [w64 (n := n) (by omega) (by omega), w64 (n := d) (by omega) (by omega), w64 (n := 0 - n) (by omega) (by omega), Int.zero_sub]
      cases decide (a < 0) == decide (b < 0) <;> rfl
theorem f79_loop {R : Type} (kk : V → List Ob → Option R) (l : List Bool) (hb : l.length < 4611686018427387904) : ∀ (d i : Nat), i + d = l.length →
    vrun (E9 8) f79cuts 0 100000 (vend (E9 8) 0 (fb Tryd.f79).1.results.toList false kk) (d + 1) f79t2 (f79s0 l true i) = kk (.int .i64 (idxTrue (l.drop i) i)) [] := by
  intro d
  induction d with
  | zero =>
    intro i hi
    rw [vrun_succ, f79_0, bif_neg (by exact decide_eq_false (by omega)), List.drop_eq_nil_of_le (by omega)]; rfl
  | succ d ih =>
    intro i hi
    have hlt : i < l.length := by omega
    rw [vrun_succ, f79_0, bif_pos (by exact decide_eq_true (by omega)), wrap_succ (by omega), ih (i + 1) (by omega), idx_nat, List.getElem?_eq_getElem hlt, List.drop_eq_getElem_cons hlt]
    dsimp only [idxTrue]
    cases h : l[i] with
    | true => rw [if_pos rfl]; rfl
    | false => rw [if_neg (by decide)]; rfl
theorem f79_c (x : List Bool) (y : Bool) (h : (decide (x.length < 4611686018427387904) && y) = true) : Contract Tryd.prog gls 79 [.sl rB x, .bool y] [] (.int .i64 (idxTrue x 0)) [] := by
  rw [Bool.and_eq_true] at h
  obtain ⟨h1, h2⟩ := h
  subst h2
  have hn : vrun (E9 8) f79cuts 0 100000 (vend (E9 8) 0 (fb Tryd.f79).1.results.toList false fun v os => some (v, os)) (List.length x + 1 + 1) [.code (fb Tryd.f79).2] (start [.sl rB x, .bool true] []) = some (.int .i64 (idxTrue x 0), []) := by
    rw [vrun_succ, f79_go]
    exact f79_loop _ x (of_decide_eq_true h1) (List.length x) 0 (by omega)
  exact contract_run (fn := (fb Tryd.f79).1) (c := (fb Tryd.f79).2) mixed (ready9 8) (glE9 8) Tryd.func79 (by kernel_rfl) rfl rfl (by kernel_rfl) hn
def f79e : Entry Tryd.prog gls := .two 79 false (.cons (.sl rB) .nil) false rB (by intro h; cases h <;> rfl) (by intro h; cases h <;> rfl) (fun (x : List Bool) (y : Bool) => (decide (x.length < 4611686018427387904) && y, .int .i64 (idxTrue x 0))) fun x y h => f79_c x y h
def f55e : Entry Tryd.prog gls := .two 55 false rI false rI (by intro h; cases h <;> rfl) (by intro h; cases h <;> rfl) (fun (x : Int) (y : Int) => (i64B x && i64B y, ratR (Rt.of x y))) fun x y h => by
  have _ := h
  have hn := f55_run (fun v os => some (v, os)) x y h
  exact contract_run (fn := (fb Tryd.f55).1) (c := (fb Tryd.f55).2) mixed (ready9 8) (glE9 8) Tryd.func55 (by kernel_rfl) rfl rfl (by kernel_rfl) hn

noncomputable def es10 : List (Entry Tryd.prog gls) := [f55e, f79e] ++ es9 ++ es3
noncomputable def E10 (n : Nat) : Env := interp fns (look tys) gls mvs (tabOf es10) 100000 n
theorem ready10 (n : Nat) : Ready Tryd.prog (E10 n) := ready_of mixed fnsAll tysOk n
theorem glE10 (n : Nat) : (E10 n).gl = gls := by cases n <;> rfl
end Vm.S06

open Go Go.Proofs
namespace Vm.S06
noncomputable abbrev f26cuts : Cuts := look [(5, [1, 2, 5, 6]), (7, [2, 5, 6])]
noncomputable abbrev f26t7 : List Item := itemsAt (fb Tryd.f26).2 7
noncomputable abbrev f26t5 : List Item := itemsAt (fb Tryd.f26).2 5
def f26s0 (n2 : Int) (n3 : Int) (x4 : Int × Int × Int × Int) (x5 : Int × Int) : St := { fr := [(1, V.ref 0 0 0 0), (2, V.ref 1 0 0 0), (5, V.int IntKind.i64 n2), (6, V.int IntKind.i64 n3)], hp := [(0, Ob.var [V.int IntKind.i64 x4.fst, V.int IntKind.i64 x4.snd.fst, V.int IntKind.i64 x4.snd.snd.fst, V.int IntKind.i64 x4.snd.snd.snd]), (1, Ob.var [V.int IntKind.i64 x5.fst, V.int IntKind.i64 x5.snd])], nx := 2 }
def f26s1 (n6 : Int) (n7 : Int) (x8 : Int × Int) : St := { fr := [(2, V.ref 0 0 0 0), (5, V.int IntKind.i64 n6), (6, V.int IntKind.i64 n7)], hp := [(0, Ob.var [V.int IntKind.i64 x8.fst, V.int IntKind.i64 x8.snd])], nx := 1 }
theorem f26_go {R : Type} (J : List Item → St → Option R) (kk : V → List Ob → Option R) (v : Int × Int × Int × Int) :
  vseg (E10 8) f26cuts 0 J (vend (E10 8) 0 (fb Tryd.f26).1.results.toList false kk) 100000 true [.code (fb Tryd.f26).2] (start ([enc true rVal v]) ([])) =
  (bif !Vl.right v then
    kk (V.tuple [V.agg [V.int IntKind.i64 (0 : Int), V.int IntKind.i64 (0 : Int)], V.int IntKind.i64 (40 : Int)]) ([])
  else (match idx glDotted v.snd.fst with
      | some y1 => (bif decide (v.fst < (0 : Int)) then
        none
      else J f26t5 (f26s0 (y1.fst) (IntKind.i64.wrap (y1.snd * (2 : Int) ^ min (Int.toNat v.fst) IntKind.i64.bits)) (v) ((0 : Int), (0 : Int))))
      | none => none)) := by kernel_rfl
theorem f26_0 {R : Type} (J : List Item → St → Option R) (kk : V → List Ob → Option R) (n2 : Int) (n3 : Int) (x4 : Int × Int × Int × Int) (x5 : Int × Int) :
  vseg (E10 8) f26cuts 0 J (vend (E10 8) 0 (fb Tryd.f26).1.results.toList false kk) 100000 true f26t5 (f26s0 n2 n3 x4 x5) =
  (bif decide ((0 : Int) < x4.snd.snd.fst) then
    J f26t7 (f26s1 (IntKind.i64.wrap (n2 * x4.snd.snd.snd)) (IntKind.i64.wrap (n3 * x4.snd.snd.fst)) (x5))
  else J f26t7 (f26s1 (n2) (n3) (x5))) := by kernel_rfl
theorem f26_1 {R : Type} (J : List Item → St → Option R) (kk : V → List Ob → Option R) (n6 : Int) (n7 : Int) (x8 : Int × Int) :
  vseg (E10 8) f26cuts 0 J (vend (E10 8) 0 (fb Tryd.f26).1.results.toList false kk) 100000 true f26t7 (f26s1 n6 n7 x8) =
  (bif i64B n6 && i64B n7 then
    kk (V.tuple [V.agg [V.int IntKind.i64 (Rt.of n6 n7).fst.fst, V.int IntKind.i64 (Rt.of n6 n7).fst.snd], V.int IntKind.i64 (Rt.of n6 n7).snd]) ([])
  else none) := by kernel_rfl

noncomputable abbrev f18cuts : Cuts := look [(7, [3, 4, 6, 26, 27, 28])]
noncomputable abbrev f18t7 : List Item := itemsAt (fb Tryd.f18).2 7
def f18s0 (x : Int × List (Int × Int × Int) × List Bool × Int × Int × Int × Int × List Int × List UInt8) (n1 : Int) (x2 : Int × Int) (n3 : Int) (n4 : Int) (n5 : Int) (n6 : Int) (n7 : Int) (s8 : List UInt8) (n9 : Int) (l10 : List Bool) (n11 : Int) (n12 : Int) (n13 : Int) (n14 : Int) (l15 : List Int) (s16 : List UInt8) : St := { fr := [(3, V.ref 0 0 0 0), (4, V.ref 1 0 0 0), (6, V.ref 2 0 0 0), (26, V.sl rPitch x.snd.fst), (27, V.int IntKind.i64 (↑(List.length x.snd.fst) : Int)), (28, V.int IntKind.i64 n1)], hp := [(0, Ob.var [V.int IntKind.i64 x2.fst, V.int IntKind.i64 x2.snd]), (1, Ob.var [V.int IntKind.i64 n3, V.nilsl, V.nilsl, V.int IntKind.i64 n4, V.int IntKind.i64 n5, V.int IntKind.i64 n6, V.int IntKind.i64 n7, V.nilsl, V.str s8]), (2, Ob.var [V.int IntKind.i64 n9, V.nilsl, V.sl rB l10, V.int IntKind.i64 n11, V.int IntKind.i64 n12, V.int IntKind.i64 n13, V.int IntKind.i64 n14, V.sl rI l15, V.str s16])], nx := 3 }
def f18s1 (x : Int × List (Int × Int × Int) × List Bool × Int × Int × Int × Int × List Int × List UInt8) (n18 : Int) (x19 : Int × Int) (n20 : Int) (n21 : Int) (n22 : Int) (n23 : Int) (n24 : Int) (s25 : List UInt8) (n26 : Int) (l27 : List Bool) (n28 : Int) (n29 : Int) (n30 : Int) (n31 : Int) (l32 : List Int) (s33 : List UInt8) (l34 : List (Int × Int × Int)) : St := { fr := [(3, V.ref 0 0 0 0), (4, V.ref 1 0 0 0), (6, V.ref 2 0 0 0), (26, V.sl rPitch x.snd.fst), (27, V.int IntKind.i64 (↑(List.length x.snd.fst) : Int)), (28, V.int IntKind.i64 n18)], hp := [(0, Ob.var [V.int IntKind.i64 x19.fst, V.int IntKind.i64 x19.snd]), (1, Ob.var [V.int IntKind.i64 n20, V.nilsl, V.nilsl, V.int IntKind.i64 n21, V.int IntKind.i64 n22, V.int IntKind.i64 n23, V.int IntKind.i64 n24, V.nilsl, V.str s25]), (2, Ob.var [V.int IntKind.i64 n26, V.own 3, V.sl rB l27, V.int IntKind.i64 n28, V.int IntKind.i64 n29, V.int IntKind.i64 n30, V.int IntKind.i64 n31, V.sl rI l32, V.str s33]), (3, Ob.arr (Ks.cons (K.int IntKind.i64) (Ks.cons (K.int IntKind.i64) (Ks.cons (K.int IntKind.i64) Ks.nil))) l34 false)], nx := 4 }
theorem f18_go {R : Type} (J : List Item → St → Option R) (kk : V → List Ob → Option R) (x : Int × List (Int × Int × Int) × List Bool × Int × Int × Int × Int × List Int × List UInt8) (b : Int × Int) :
  vseg (E10 8) f18cuts 0 J (vend (E10 8) 0 (fb Tryd.f18).1.results.toList false kk) 100000 true [.code (fb Tryd.f18).2] (start ([enc true rEvent x, enc true rIv b]) ([])) =
  (bif Ev.okm x then
    (bif !Ev.right x then
      kk (V.tuple [V.agg [V.int IntKind.i64 (0 : Int), V.nilsl, V.nilsl, V.int IntKind.i64 (0 : Int), V.int IntKind.i64 (0 : Int), V.int IntKind.i64 (0 : Int), V.int IntKind.i64 (0 : Int), V.nilsl, V.str []], V.int IntKind.i64 (60 : Int)]) ([])
    else (bif decide (List.length x.snd.snd.fst * (1 : Nat) ≤ bytesMost) then
        (bif decide (List.length x.snd.snd.snd.snd.snd.snd.snd.fst * (8 : Nat) ≤ bytesMost) then
          J f18t7 (f18s0 (x) (0 : Int) (b) (0 : Int) (0 : Int) (0 : Int) (0 : Int) (0 : Int) ([]) (x.fst) (x.snd.snd.fst) (x.snd.snd.snd.fst) (x.snd.snd.snd.snd.fst) (x.snd.snd.snd.snd.snd.fst) (x.snd.snd.snd.snd.snd.snd.fst) (x.snd.snd.snd.snd.snd.snd.snd.fst) (x.snd.snd.snd.snd.snd.snd.snd.snd))
        else none)
      else none))
  else none) := by kernel_rfl
theorem f18_0 {R : Type} (J : List Item → St → Option R) (kk : V → List Ob → Option R) (x : Int × List (Int × Int × Int) × List Bool × Int × Int × Int × Int × List Int × List UInt8) (n1 : Int) (x2 : Int × Int) (n3 : Int) (n4 : Int) (n5 : Int) (n6 : Int) (n7 : Int) (s8 : List UInt8) (n9 : Int) (l10 : List Bool) (n11 : Int) (n12 : Int) (n13 : Int) (n14 : Int) (l15 : List Int) (s16 : List UInt8) :
  vseg (E10 8) f18cuts 0 J (vend (E10 8) 0 (fb Tryd.f18).1.results.toList false kk) 100000 true f18t7 (f18s0 x n1 x2 n3 n4 n5 n6 n7 s8 n9 l10 n11 n12 n13 n14 l15 s16) =
  (bif decide (n1 < (↑(List.length x.snd.fst) : Int)) then
    (match idx x.snd.fst n1 with
      | some y17 => (bif !decide (Pt.upE y17 x2 = (0 : Int)) then
        kk (V.tuple [V.agg [V.int IntKind.i64 (0 : Int), V.nilsl, V.nilsl, V.int IntKind.i64 (0 : Int), V.int IntKind.i64 (0 : Int), V.int IntKind.i64 (0 : Int), V.int IntKind.i64 (0 : Int), V.nilsl, V.str []], V.int IntKind.i64 (Pt.upE y17 x2)]) ([])
      else J f18t7 (f18s1 (x) (IntKind.i64.wrap (n1 + (1 : Int))) (x2) (n3) (n4) (n5) (n6) (n7) (s8) (n9) (l10) (n11) (n12) (n13) (n14) (l15) (s16) ((List.replicate (1 : Nat) (Int.ofNat (0 : Nat), Int.ofNat (0 : Nat), Int.ofNat (0 : Nat))).set (0 : Nat) (Pt.upV y17 x2))))
      | none => none)
  else (bif Ev.okm (n9, [], l10, n11, n12, n13, n14, l15, s16) then
      (bif !Ev.right (n9, [], l10, n11, n12, n13, n14, l15, s16) then
        kk (V.tuple [V.agg [V.int IntKind.i64 (0 : Int), V.nilsl, V.nilsl, V.int IntKind.i64 (0 : Int), V.int IntKind.i64 (0 : Int), V.int IntKind.i64 (0 : Int), V.int IntKind.i64 (0 : Int), V.nilsl, V.str []], V.int IntKind.i64 (60 : Int)]) ([])
      else kk (V.tuple [V.agg [V.int IntKind.i64 n9, V.nilsl, V.sl rB l10, V.int IntKind.i64 n11, V.int IntKind.i64 n12, V.int IntKind.i64 n13, V.int IntKind.i64 n14, V.sl rI l15, V.str s16], V.int IntKind.i64 (0 : Int)]) ([]))
    else none)) := by kernel_rfl
theorem f18_1 {R : Type} (J : List Item → St → Option R) (kk : V → List Ob → Option R) (x : Int × List (Int × Int × Int) × List Bool × Int × Int × Int × Int × List Int × List UInt8) (n18 : Int) (x19 : Int × Int) (n20 : Int) (n21 : Int) (n22 : Int) (n23 : Int) (n24 : Int) (s25 : List UInt8) (n26 : Int) (l27 : List Bool) (n28 : Int) (n29 : Int) (n30 : Int) (n31 : Int) (l32 : List Int) (s33 : List UInt8) (l34 : List (Int × Int × Int)) :
  vseg (E10 8) f18cuts 0 J (vend (E10 8) 0 (fb Tryd.f18).1.results.toList false kk) 100000 true f18t7 (f18s1 x n18 x19 n20 n21 n22 n23 n24 s25 n26 l27 n28 n29 n30 n31 l32 s33 l34) =
  (bif decide (n18 < (↑(List.length x.snd.fst) : Int)) then
    (match idx x.snd.fst n18 with
      | some y35 => (bif !decide (Pt.upE y35 x19 = (0 : Int)) then
        kk (V.tuple [V.agg [V.int IntKind.i64 (0 : Int), V.nilsl, V.nilsl, V.int IntKind.i64 (0 : Int), V.int IntKind.i64 (0 : Int), V.int IntKind.i64 (0 : Int), V.int IntKind.i64 (0 : Int), V.nilsl, V.str []], V.int IntKind.i64 (Pt.upE y35 x19)]) ([])
      else (bif decide ((l34.length + ((List.replicate (1 : Nat) (Int.ofNat (0 : Nat), Int.ofNat (0 : Nat), Int.ofNat (0 : Nat))).set (0 : Nat) (Pt.upV y35 x19)).length) * 24 ≤ bytesMost) then
          J f18t7 (f18s1 (x) (IntKind.i64.wrap (n18 + (1 : Int))) (x19) (n20) (n21) (n22) (n23) (n24) (s25) (n26) (l27) (n28) (n29) (n30) (n31) (l32) (s33) (l34 ++ (List.replicate (1 : Nat) (Int.ofNat (0 : Nat), Int.ofNat (0 : Nat), Int.ofNat (0 : Nat))).set (0 : Nat) (Pt.upV y35 x19)))
        else none))
      | none => none)
  else (bif Ev.okm (n26, l34, l27, n28, n29, n30, n31, l32, s33) then
      (bif !Ev.right (n26, l34, l27, n28, n29, n30, n31, l32, s33) then
        kk (V.tuple [V.agg [V.int IntKind.i64 (0 : Int), V.nilsl, V.nilsl, V.int IntKind.i64 (0 : Int), V.int IntKind.i64 (0 : Int), V.int IntKind.i64 (0 : Int), V.int IntKind.i64 (0 : Int), V.nilsl, V.str []], V.int IntKind.i64 (60 : Int)]) ([])
      else kk (V.tuple [V.agg [V.int IntKind.i64 n26, V.sl (Ks.cons (K.int IntKind.i64) (Ks.cons (K.int IntKind.i64) (Ks.cons (K.int IntKind.i64) Ks.nil))) l34, V.sl rB l27, V.int IntKind.i64 n28, V.int IntKind.i64 n29, V.int IntKind.i64 n30, V.int IntKind.i64 n31, V.sl rI l32, V.str s33], V.int IntKind.i64 (0 : Int)]) ([]))
    else none)) := by kernel_rfl

noncomputable abbrev f19cuts : Cuts := look [(5, [2, 3, 4, 6, 7])]
noncomputable abbrev f19t5 : List Item := itemsAt (fb Tryd.f19).2 5
def f19s0 (n1 : Int) (x2 : Int × List (Int × Int × Int) × List Bool × Int × Int × Int × Int × List Int × List UInt8) (x3 : Int × Int) (n4 : Int) (n5 : Int) (n6 : Int) (n7 : Int) (n8 : Int) (s9 : List UInt8) (n10 : Int) (n11 : Int) (n12 : Int) (n13 : Int) (n14 : Int) (s15 : List UInt8) (l16 : List Bool) (l17 : List Int) : St := { fr := [(2, V.ref 0 0 0 0), (3, V.ref 1 0 0 0), (4, V.ref 2 0 0 0), (6, V.ref 3 0 0 0), (7, V.int IntKind.i64 n1)], hp := [(0, Ob.var [V.int IntKind.i64 x2.fst, V.sl rPitch x2.snd.fst, V.sl rB x2.snd.snd.fst, V.int IntKind.i64 x2.snd.snd.snd.fst, V.int IntKind.i64 x2.snd.snd.snd.snd.fst, V.int IntKind.i64 x2.snd.snd.snd.snd.snd.fst, V.int IntKind.i64 x2.snd.snd.snd.snd.snd.snd.fst, V.sl rI x2.snd.snd.snd.snd.snd.snd.snd.fst, V.str x2.snd.snd.snd.snd.snd.snd.snd.snd]), (1, Ob.var [V.int IntKind.i64 x3.fst, V.int IntKind.i64 x3.snd]), (2, Ob.var [V.int IntKind.i64 n4, V.nilsl, V.nilsl, V.int IntKind.i64 n5, V.int IntKind.i64 n6, V.int IntKind.i64 n7, V.int IntKind.i64 n8, V.nilsl, V.str s9]), (3, Ob.var [V.int IntKind.i64 n10, V.nilsl, V.own 4, V.int IntKind.i64 n11, V.int IntKind.i64 n12, V.int IntKind.i64 n13, V.int IntKind.i64 n14, V.own 5, V.str s15]), (4, Ob.arr (Ks.cons K.bool Ks.nil) l16 false), (5, Ob.arr (Ks.cons (K.int IntKind.i64) Ks.nil) l17 false)], nx := 6 }
def f19s1 (n19 : Int) (x20 : Int × List (Int × Int × Int) × List Bool × Int × Int × Int × Int × List Int × List UInt8) (x21 : Int × Int) (n22 : Int) (n23 : Int) (n24 : Int) (n25 : Int) (n26 : Int) (s27 : List UInt8) (n28 : Int) (n29 : Int) (n30 : Int) (n31 : Int) (n32 : Int) (s33 : List UInt8) (l34 : List (Int × Int × Int)) (l35 : List Bool) (l36 : List Int) : St := { fr := [(2, V.ref 0 0 0 0), (3, V.ref 1 0 0 0), (4, V.ref 2 0 0 0), (6, V.ref 3 0 0 0), (7, V.int IntKind.i64 n19)], hp := [(0, Ob.var [V.int IntKind.i64 x20.fst, V.sl rPitch x20.snd.fst, V.sl rB x20.snd.snd.fst, V.int IntKind.i64 x20.snd.snd.snd.fst, V.int IntKind.i64 x20.snd.snd.snd.snd.fst, V.int IntKind.i64 x20.snd.snd.snd.snd.snd.fst, V.int IntKind.i64 x20.snd.snd.snd.snd.snd.snd.fst, V.sl rI x20.snd.snd.snd.snd.snd.snd.snd.fst, V.str x20.snd.snd.snd.snd.snd.snd.snd.snd]), (1, Ob.var [V.int IntKind.i64 x21.fst, V.int IntKind.i64 x21.snd]), (2, Ob.var [V.int IntKind.i64 n22, V.nilsl, V.nilsl, V.int IntKind.i64 n23, V.int IntKind.i64 n24, V.int IntKind.i64 n25, V.int IntKind.i64 n26, V.nilsl, V.str s27]), (3, Ob.var [V.int IntKind.i64 n28, V.own 4, V.own 5, V.int IntKind.i64 n29, V.int IntKind.i64 n30, V.int IntKind.i64 n31, V.int IntKind.i64 n32, V.own 6, V.str s33]), (4, Ob.arr (Ks.cons (K.int IntKind.i64) (Ks.cons (K.int IntKind.i64) (Ks.cons (K.int IntKind.i64) Ks.nil))) l34 false), (5, Ob.arr (Ks.cons K.bool Ks.nil) l35 false), (6, Ob.arr (Ks.cons (K.int IntKind.i64) Ks.nil) l36 false)], nx := 7 }
theorem f19_go {R : Type} (J : List Item → St → Option R) (kk : V → List Ob → Option R) (x : Int × List (Int × Int × Int) × List Bool × Int × Int × Int × Int × List Int × List UInt8) (b : Int × Int) :
  vseg (E10 8) f19cuts 0 J (vend (E10 8) 0 (fb Tryd.f19).1.results.toList false kk) 100000 true [.code (fb Tryd.f19).2] (start ([enc true rEvent x, enc true rIv b]) ([])) =
  (bif Ev.okm x then
    (bif !Ev.right x then
      kk (V.tuple [V.agg [V.int IntKind.i64 (0 : Int), V.nilsl, V.nilsl, V.int IntKind.i64 (0 : Int), V.int IntKind.i64 (0 : Int), V.int IntKind.i64 (0 : Int), V.int IntKind.i64 (0 : Int), V.nilsl, V.str []], V.int IntKind.i64 (60 : Int)]) ([])
    else (bif decide (((List.replicate (0 : Nat) false).length + List.length x.snd.snd.fst) * 1 ≤ bytesMost) then
        (bif decide (((List.replicate (0 : Nat) (Int.ofNat (0 : Nat))).length + List.length x.snd.snd.snd.snd.snd.snd.snd.fst) * 8 ≤ bytesMost) then
          J f19t5 (f19s0 (0 : Int) (x) (b) (0 : Int) (0 : Int) (0 : Int) (0 : Int) (0 : Int) ([]) (x.fst) (x.snd.snd.snd.fst) (x.snd.snd.snd.snd.fst) (x.snd.snd.snd.snd.snd.fst) (x.snd.snd.snd.snd.snd.snd.fst) (x.snd.snd.snd.snd.snd.snd.snd.snd) (List.replicate (0 : Nat) false ++ x.snd.snd.fst) (List.replicate (0 : Nat) (Int.ofNat (0 : Nat)) ++ x.snd.snd.snd.snd.snd.snd.snd.fst))
        else none)
      else none))
  else none) := by kernel_rfl
theorem f19_0 {R : Type} (J : List Item → St → Option R) (kk : V → List Ob → Option R) (n1 : Int) (x2 : Int × List (Int × Int × Int) × List Bool × Int × Int × Int × Int × List Int × List UInt8) (x3 : Int × Int) (n4 : Int) (n5 : Int) (n6 : Int) (n7 : Int) (n8 : Int) (s9 : List UInt8) (n10 : Int) (n11 : Int) (n12 : Int) (n13 : Int) (n14 : Int) (s15 : List UInt8) (l16 : List Bool) (l17 : List Int) :
  vseg (E10 8) f19cuts 0 J (vend (E10 8) 0 (fb Tryd.f19).1.results.toList false kk) 100000 true f19t5 (f19s0 n1 x2 x3 n4 n5 n6 n7 n8 s9 n10 n11 n12 n13 n14 s15 l16 l17) =
  (bif decide (n1 < (↑x2.snd.fst.length : Int)) then
    (match idx x2.snd.fst n1 with
      | some y18 => (bif !decide (Pt.upE y18 x3 = (0 : Int)) then
        kk (V.tuple [V.agg [V.int IntKind.i64 (0 : Int), V.nilsl, V.nilsl, V.int IntKind.i64 (0 : Int), V.int IntKind.i64 (0 : Int), V.int IntKind.i64 (0 : Int), V.int IntKind.i64 (0 : Int), V.nilsl, V.str []], V.int IntKind.i64 (Pt.upE y18 x3)]) ([])
      else J f19t5 (f19s1 (IntKind.i64.wrap (n1 + (1 : Int))) (x2) (x3) (n4) (n5) (n6) (n7) (n8) (s9) (n10) (n11) (n12) (n13) (n14) (s15) ((List.replicate (1 : Nat) (Int.ofNat (0 : Nat), Int.ofNat (0 : Nat), Int.ofNat (0 : Nat))).set (0 : Nat) (Pt.upV y18 x3)) (l16) (l17)))
      | none => none)
  else (bif Ev.okm (n10, [], l16, n11, n12, n13, n14, l17, s15) then
      (bif !Ev.right (n10, [], l16, n11, n12, n13, n14, l17, s15) then
        kk (V.tuple [V.agg [V.int IntKind.i64 (0 : Int), V.nilsl, V.nilsl, V.int IntKind.i64 (0 : Int), V.int IntKind.i64 (0 : Int), V.int IntKind.i64 (0 : Int), V.int IntKind.i64 (0 : Int), V.nilsl, V.str []], V.int IntKind.i64 (60 : Int)]) ([])
      else kk (V.tuple [V.agg [V.int IntKind.i64 n10, V.nilsl, V.sl (Ks.cons K.bool Ks.nil) l16, V.int IntKind.i64 n11, V.int IntKind.i64 n12, V.int IntKind.i64 n13, V.int IntKind.i64 n14, V.sl (Ks.cons (K.int IntKind.i64) Ks.nil) l17, V.str s15], V.int IntKind.i64 (0 : Int)]) ([]))
    else none)) := by kernel_rfl
theorem f19_1 {R : Type} (J : List Item → St → Option R) (kk : V → List Ob → Option R) (n19 : Int) (x20 : Int × List (Int × Int × Int) × List Bool × Int × Int × Int × Int × List Int × List UInt8) (x21 : Int × Int) (n22 : Int) (n23 : Int) (n24 : Int) (n25 : Int) (n26 : Int) (s27 : List UInt8) (n28 : Int) (n29 : Int) (n30 : Int) (n31 : Int) (n32 : Int) (s33 : List UInt8) (l34 : List (Int × Int × Int)) (l35 : List Bool) (l36 : List Int) :
  vseg (E10 8) f19cuts 0 J (vend (E10 8) 0 (fb Tryd.f19).1.results.toList false kk) 100000 true f19t5 (f19s1 n19 x20 x21 n22 n23 n24 n25 n26 s27 n28 n29 n30 n31 n32 s33 l34 l35 l36) =
  (bif decide (n19 < (↑x20.snd.fst.length : Int)) then
    (match idx x20.snd.fst n19 with
      | some y37 => (bif !decide (Pt.upE y37 x21 = (0 : Int)) then
        kk (V.tuple [V.agg [V.int IntKind.i64 (0 : Int), V.nilsl, V.nilsl, V.int IntKind.i64 (0 : Int), V.int IntKind.i64 (0 : Int), V.int IntKind.i64 (0 : Int), V.int IntKind.i64 (0 : Int), V.nilsl, V.str []], V.int IntKind.i64 (Pt.upE y37 x21)]) ([])
      else (bif decide ((l34.length + ((List.replicate (1 : Nat) (Int.ofNat (0 : Nat), Int.ofNat (0 : Nat), Int.ofNat (0 : Nat))).set (0 : Nat) (Pt.upV y37 x21)).length) * 24 ≤ bytesMost) then
          J f19t5 (f19s1 (IntKind.i64.wrap (n19 + (1 : Int))) (x20) (x21) (n22) (n23) (n24) (n25) (n26) (s27) (n28) (n29) (n30) (n31) (n32) (s33) (l34 ++ (List.replicate (1 : Nat) (Int.ofNat (0 : Nat), Int.ofNat (0 : Nat), Int.ofNat (0 : Nat))).set (0 : Nat) (Pt.upV y37 x21)) (l35) (l36))
        else none))
      | none => none)
  else (bif Ev.okm (n28, l34, l35, n29, n30, n31, n32, l36, s33) then
      (bif !Ev.right (n28, l34, l35, n29, n30, n31, n32, l36, s33) then
        kk (V.tuple [V.agg [V.int IntKind.i64 (0 : Int), V.nilsl, V.nilsl, V.int IntKind.i64 (0 : Int), V.int IntKind.i64 (0 : Int), V.int IntKind.i64 (0 : Int), V.int IntKind.i64 (0 : Int), V.nilsl, V.str []], V.int IntKind.i64 (60 : Int)]) ([])
      else kk (V.tuple [V.agg [V.int IntKind.i64 n28, V.sl (Ks.cons (K.int IntKind.i64) (Ks.cons (K.int IntKind.i64) (Ks.cons (K.int IntKind.i64) Ks.nil))) l34, V.sl (Ks.cons K.bool Ks.nil) l35, V.int IntKind.i64 n29, V.int IntKind.i64 n30, V.int IntKind.i64 n31, V.int IntKind.i64 n32, V.sl (Ks.cons (K.int IntKind.i64) Ks.nil) l36, V.str s33], V.int IntKind.i64 (0 : Int)]) ([]))
    else none)) := by kernel_rfl

end Vm.S06

open Go Go.Proofs
namespace Vm.S06
theorem f26_run {R : Type} (kk : V → List Ob → Option R) (v : Vl) :
    vrun (E10 8) f26cuts 0 100000 (vend (E10 8) 0 (fb Tryd.f26).1.results.toList false kk) 3 [.code (fb Tryd.f26).2] (start [enc true rVal v] []) = kk (ratR (Vl.len v)) [] := by
  rw [vrun_succ, f26_go]
  unfold Vl.len
  cases hr : Vl.right v with
  | false => rfl
  | true =>
    rw [bif_neg (by rfl), if_pos rfl]
    have h := hr
    simp only [Vl.right, decide_eq_true_eq] at h
    obtain ⟨h1, h2, h3, h4, h5⟩ := h
    have hd : idx glDotted v.snd.fst = some (if v.2.1 = 0 then 1 else if v.2.1 = 1 then 3 else 7, if v.2.1 = 0 then 1 else if v.2.1 = 1 then 2 else 4) := by
      have : v.2.1 = 0 ∨ v.2.1 = 1 ∨ v.2.1 = 2 := by omega
      rcases this with e | e | e <;> rw [e] <;> rfl
    rw [hd]
    dsimp only
    rw [bif_neg (by exact decide_eq_false (by omega)), vrun_succ, f26_0]
    generalize hN : (if v.2.1 = 0 then 1 else if v.2.1 = 1 then 3 else 7 : Int) = N
    generalize hD : (if v.2.1 = 0 then 1 else if v.2.1 = 1 then 2 else 4 : Int) = D
    have bN : 1 ≤ N ∧ N ≤ 7 := by rw [← hN]; (repeat' split) <;> omega
    have bD : 1 ≤ D ∧ D ≤ 4 := by rw [← hD]; (repeat' split) <;> omega
    have hp : (2 : Int) ^ min (Int.toNat v.fst) IntKind.i64.bits = 2 ^ v.1.toNat := by
      rw [Nat.min_eq_left (by simp [IntKind.bits]; omega)]
    have bp : 1 ≤ (2 : Int) ^ v.1.toNat ∧ (2 : Int) ^ v.1.toNat ≤ 64 := by
      have : v.1.toNat = 0 ∨ v.1.toNat = 1 ∨ v.1.toNat = 2 ∨ v.1.toNat = 3 ∨ v.1.toNat = 4 ∨ v.1.toNat = 5 ∨ v.1.toNat = 6 := by omega
      rcases this with e | e | e | e | e | e | e <;> rw [e] <;> decide
    rw [hp]
    generalize (2 : Int) ^ v.1.toNat = p at *
    have bDp : 1 ≤ D * p ∧ D * p ≤ 256 := by
      have : D = 1 ∨ D = 2 ∨ D = 3 ∨ D = 4 := by omega
      rcases this with rfl | rfl | rfl | rfl <;> omega
    rw [w64 (n := D * p) (by omega) (by omega)]
    generalize D * p = q at *
    by_cases h0 : 0 < v.2.2.1
    · have b15 : 2 ≤ v.2.2.1 ∧ v.2.2.1 ≤ 15 ∧ 1 ≤ v.2.2.2 ∧ v.2.2.2 ≤ 15 := by omega
      have m1 : 0 ≤ N * v.2.2.2 ∧ N * v.2.2.2 ≤ 105 := by
        have : N = 1 ∨ N = 2 ∨ N = 3 ∨ N = 4 ∨ N = 5 ∨ N = 6 ∨ N = 7 := by omega
        rcases this with rfl | rfl | rfl | rfl | rfl | rfl | rfl <;> omega
      have m2 : 0 ≤ q * v.2.2.1 ∧ q * v.2.2.1 ≤ 3840 := by
        generalize v.2.2.1 = z at *
        have : z = 2 ∨ z = 3 ∨ z = 4 ∨ z = 5 ∨ z = 6 ∨ z = 7 ∨ z = 8 ∨ z = 9 ∨ z = 10 ∨ z = 11 ∨ z = 12 ∨ z = 13 ∨ z = 14 ∨ z = 15 := by omega
        rcases this with rfl | rfl | rfl | rfl | rfl | rfl | rfl | rfl | rfl | rfl | rfl | rfl | rfl | rfl <;> omega
      rw [bif_pos (decide_eq_true h0), if_pos h0, w64 (n := N * v.2.2.2) (by omega) (by omega), w64 (n := q * v.2.2.1) (by omega) (by omega), vrun_succ, f26_1]
      rw [bif_pos (by rw [Bool.and_eq_true]; exact ⟨decide_eq_true (by omega), decide_eq_true (by omega)⟩)]; rfl
    · rw [bif_neg (decide_eq_false h0), if_neg h0, vrun_succ, f26_1]
      rw [bif_pos (by rw [Bool.and_eq_true]; exact ⟨decide_eq_true (by omega), decide_eq_true (by omega)⟩)]; rfl

/-! #### up -/
abbrev evR (x : Ev × Int) : V := .tuple [enc true rEvent x.1, .int .i64 x.2]
abbrev zEvV : V := V.agg [V.int IntKind.i64 (0 : Int), V.nilsl, V.nilsl, V.int IntKind.i64 (0 : Int), V.int IntKind.i64 (0 : Int), V.int IntKind.i64 (0 : Int), V.int IntKind.i64 (0 : Int), V.nilsl, V.str []]
theorem canon_zEv (e : Int) : canon2 true rEvent (.tuple [zEvV, .int .i64 e]) = some (zEv, .int .i64 e) := by rfl

theorem f18_loop {R : Type} (kk : V → List Ob → Option R) (x : Ev) (b : Int × Int) (hx : Ev.okm x = true) (hb : x.2.1.length ≤ 8) : ∀ (d i : Nat) (l : List Pt), i + d = x.2.1.length → l.length ≤ i →
    ∃ v, canon2 true rEvent v = some ((Ev.upTail x b l (x.2.1.drop i)).1, .int .i64 (Ev.upTail x b l (x.2.1.drop i)).2) ∧
    vrun (E10 8) f18cuts 0 100000 (vend (E10 8) 0 (fb Tryd.f18).1.results.toList false kk) (d + 1) f18t7 (f18s1 x i b 0 0 0 0 0 [] x.1 x.2.2.1 x.2.2.2.1 x.2.2.2.2.1 x.2.2.2.2.2.1 x.2.2.2.2.2.2.1 x.2.2.2.2.2.2.2.1 x.2.2.2.2.2.2.2.2 l) = kk v [] := by
  intro d
  induction d with
  | zero =>
    intro i l hi hl
    have ho : Ev.okm (x.withP l) = true := hx
    rw [vrun_succ, f18_1, bif_neg (by exact decide_eq_false (by omega)), List.drop_eq_nil_of_le (by omega), Ev.upTail_nil]
    rw [show (x.fst, l, x.snd.snd.fst, x.snd.snd.snd.fst, x.snd.snd.snd.snd.fst, x.snd.snd.snd.snd.snd.fst, x.snd.snd.snd.snd.snd.snd.fst, x.snd.snd.snd.snd.snd.snd.snd.fst, x.snd.snd.snd.snd.snd.snd.snd.snd) = x.withP l from rfl, bif_pos ho]
    cases hr : (x.withP l).right with
    | false => rw [if_neg (by decide)]; exact ⟨_, canon_zEv 60, rfl⟩
    | true => rw [if_pos rfl]; exact ⟨_, rfl, rfl⟩
  | succ d ih =>
    intro i l hi hl
    have hlt : i < x.2.1.length := by omega
    rw [vrun_succ, f18_1, bif_pos (by exact decide_eq_true (by omega)), wrap_succ (by omega), idx_nat, List.getElem?_eq_getElem hlt, List.drop_eq_getElem_cons hlt]
    dsimp only
    cases hu : Pt.up x.2.1[i] b with
    | none =>
      rw [Ev.upTail_none _ _ _ _ _ hu, bif_pos (by simp [Pt.upE, hu]), show Pt.upE x.2.1[i] b = 20 from by simp [Pt.upE, hu]]
      exact ⟨_, canon_zEv 20, rfl⟩
    | some q =>
      rw [Ev.upTail_some _ _ _ _ _ _ hu, bif_neg (by simp [Pt.upE, hu]), bif_pos (by exact decide_eq_true (by simp [bytesMost]; omega)), show Pt.upV x.2.1[i] b = q from by simp [Pt.upV, hu]]
      exact ih (i + 1) (l ++ [q]) (by omega) (by simp; omega)
theorem f18_run {R : Type} (kk : V → List Ob → Option R) (x : Ev) (b : Int × Int) (h : (Ev.okm x && decide (x.2.2.2.2.2.2.2.1.length * 8 ≤ bytesMost)) = true) :
    ∃ n v, canon2 true rEvent v = some ((Ev.up x b).1, .int .i64 (Ev.up x b).2) ∧
    vrun (E10 8) f18cuts 0 100000 (vend (E10 8) 0 (fb Tryd.f18).1.results.toList false kk) n [.code (fb Tryd.f18).2] (start [enc true rEvent x, enc true rIv b] []) = kk v [] := by
  rw [Bool.and_eq_true] at h
  obtain ⟨hx, hm⟩ := h
  refine ⟨x.2.1.length + 1 + 1, ?_⟩
  rw [vrun_succ, f18_go, bif_pos hx]
  unfold Ev.up
  cases hr : x.right with
  | false => rw [if_neg (by decide)]; exact ⟨_, canon_zEv 60, rfl⟩
  | true =>
    rw [if_pos rfl, bif_neg (by rfl)]
    have hlen : x.2.1.length ≤ 8 ∧ x.2.2.1.length = x.2.1.length := Ev.right_len hr
    rw [bif_pos (by exact decide_eq_true (by simp [bytesMost]; omega)), bif_pos hm, vrun_succ, f18_0]
    by_cases h0 : 0 < x.2.1.length
    · rw [bif_pos (by exact decide_eq_true (by omega)), idx_get x.2.1 (0 : Int) 0 rfl, List.getElem?_eq_getElem h0, w64 (n := 0 + 1) (by decide) (by decide)]
      dsimp only
      have e0 : x.2.1 = x.2.1[0] :: x.2.1.drop 1 := by
        have := List.drop_eq_getElem_cons h0
        rwa [List.drop_zero] at this
      cases hu : Pt.up x.2.1[0] b with
      | none =>
        rw [bif_pos (by simp [Pt.upE, hu]), show Pt.upE x.2.1[0] b = 20 from by simp [Pt.upE, hu]]
        have : Ev.upTail x b [] x.2.1 = (zEv, 20) := by rw [e0]; exact Ev.upTail_none _ _ _ _ _ hu
        rw [this]
        exact ⟨_, canon_zEv 20, rfl⟩
      | some q =>
        rw [bif_neg (by simp [Pt.upE, hu]), show Pt.upV x.2.1[0] b = q from by simp [Pt.upV, hu]]
        have : Ev.upTail x b [] x.2.1 = Ev.upTail x b [q] (x.2.1.drop 1) := by
          have := Ev.upTail_some x b [] (x.2.1.drop 1) _ q hu
          rw [← e0] at this; exact this
        rw [this]
        obtain ⟨d, hd⟩ : ∃ d, x.2.1.length = d + 1 := ⟨x.2.1.length - 1, by omega⟩
        rw [hd]
        exact f18_loop kk x b hx hlen.1 d 1 [q] (by omega) (by simp)
    · have e0 : x.2.1 = [] := List.length_eq_zero_iff.1 (by omega)
      have ho : Ev.okm (x.withP []) = true := hx
      rw [bif_neg (by exact decide_eq_false (by omega)), e0, Ev.upTail_nil]
      rw [show (x.fst, ([] : List Pt), x.snd.snd.fst, x.snd.snd.snd.fst, x.snd.snd.snd.snd.fst, x.snd.snd.snd.snd.snd.fst, x.snd.snd.snd.snd.snd.snd.fst, x.snd.snd.snd.snd.snd.snd.snd.fst, x.snd.snd.snd.snd.snd.snd.snd.snd) = x.withP [] from rfl, bif_pos ho]
      cases hr : (x.withP []).right with
      | false => rw [if_neg (by decide)]; exact ⟨_, canon_zEv 60, rfl⟩
      | true => rw [if_pos rfl]; exact ⟨_, rfl, rfl⟩
end Vm.S06

open Go Go.Proofs
namespace Vm.S06
theorem f19_loop {R : Type} (kk : V → List Ob → Option R) (x : Ev) (b : Int × Int) (hx : Ev.okm x = true) (hb : x.2.1.length ≤ 8) : ∀ (d i : Nat) (l : List Pt), i + d = x.2.1.length → l.length ≤ i →
    ∃ v, canon2 true rEvent v = some ((Ev.upTail x b l (x.2.1.drop i)).1, .int .i64 (Ev.upTail x b l (x.2.1.drop i)).2) ∧
    vrun (E10 8) f19cuts 0 100000 (vend (E10 8) 0 (fb Tryd.f19).1.results.toList false kk) (d + 1) f19t5 (f19s1 i x b 0 0 0 0 0 [] x.1 x.2.2.2.1 x.2.2.2.2.1 x.2.2.2.2.2.1 x.2.2.2.2.2.2.1 x.2.2.2.2.2.2.2.2 l x.2.2.1 x.2.2.2.2.2.2.2.1) = kk v [] := by
  intro d
  induction d with
  | zero =>
    intro i l hi hl
    have ho : Ev.okm (x.withP l) = true := hx
    rw [vrun_succ, f19_1, bif_neg (by exact decide_eq_false (by omega)), List.drop_eq_nil_of_le (by omega), Ev.upTail_nil]
    rw [show (x.fst, l, x.snd.snd.fst, x.snd.snd.snd.fst, x.snd.snd.snd.snd.fst, x.snd.snd.snd.snd.snd.fst, x.snd.snd.snd.snd.snd.snd.fst, x.snd.snd.snd.snd.snd.snd.snd.fst, x.snd.snd.snd.snd.snd.snd.snd.snd) = x.withP l from rfl, bif_pos ho]
    cases hr : (x.withP l).right with
    | false => rw [if_neg (by decide)]; exact ⟨_, canon_zEv 60, rfl⟩
    | true => rw [if_pos rfl]; exact ⟨_, rfl, rfl⟩
  | succ d ih =>
    intro i l hi hl
    have hlt : i < x.2.1.length := by omega
    rw [vrun_succ, f19_1, bif_pos (by exact decide_eq_true (by omega)), wrap_succ (by omega), idx_nat, List.getElem?_eq_getElem hlt, List.drop_eq_getElem_cons hlt]
    dsimp only
    cases hu : Pt.up x.2.1[i] b with
    | none =>
      rw [Ev.upTail_none _ _ _ _ _ hu, bif_pos (by simp [Pt.upE, hu]), show Pt.upE x.2.1[i] b = 20 from by simp [Pt.upE, hu]]
      exact ⟨_, canon_zEv 20, rfl⟩
    | some q =>
      rw [Ev.upTail_some _ _ _ _ _ _ hu, bif_neg (by simp [Pt.upE, hu]), bif_pos (by exact decide_eq_true (by simp [bytesMost]; omega)), show Pt.upV x.2.1[i] b = q from by simp [Pt.upV, hu]]
      exact ih (i + 1) (l ++ [q]) (by omega) (by simp; omega)
theorem f19_run {R : Type} (kk : V → List Ob → Option R) (x : Ev) (b : Int × Int) (h : (Ev.okm x && decide (x.2.2.2.2.2.2.2.1.length * 8 ≤ bytesMost)) = true) :
    ∃ n v, canon2 true rEvent v = some ((Ev.up x b).1, .int .i64 (Ev.up x b).2) ∧
    vrun (E10 8) f19cuts 0 100000 (vend (E10 8) 0 (fb Tryd.f19).1.results.toList false kk) n [.code (fb Tryd.f19).2] (start [enc true rEvent x, enc true rIv b] []) = kk v [] := by
  rw [Bool.and_eq_true] at h
  obtain ⟨hx, hm⟩ := h
  refine ⟨x.2.1.length + 1 + 1, ?_⟩
  rw [vrun_succ, f19_go, bif_pos hx]
  unfold Ev.up
  cases hr : x.right with
  | false => rw [if_neg (by decide)]; exact ⟨_, canon_zEv 60, rfl⟩
  | true =>
    rw [if_pos rfl, bif_neg (by rfl)]
    have hlen : x.2.1.length ≤ 8 ∧ x.2.2.1.length = x.2.1.length := Ev.right_len hr
    have r0 : (List.replicate 0 false : List Bool) ++ x.2.2.1 = x.2.2.1 := rfl
    have r1 : (List.replicate 0 (Int.ofNat 0) : List Int) ++ x.2.2.2.2.2.2.2.1 = x.2.2.2.2.2.2.2.1 := rfl
    rw [bif_pos (by exact decide_eq_true (by simp [bytesMost]; omega)), bif_pos (by exact decide_eq_true (by have := of_decide_eq_true hm; simpa using this)), r0, r1, vrun_succ, f19_0]
    by_cases h0 : 0 < x.2.1.length
    · rw [bif_pos (by exact decide_eq_true (by omega)), idx_get x.2.1 (0 : Int) 0 rfl, List.getElem?_eq_getElem h0, w64 (n := 0 + 1) (by decide) (by decide)]
      dsimp only
      have e0 : x.2.1 = x.2.1[0] :: x.2.1.drop 1 := by
        have := List.drop_eq_getElem_cons h0
        rwa [List.drop_zero] at this
      cases hu : Pt.up x.2.1[0] b with
      | none =>
        rw [bif_pos (by simp [Pt.upE, hu]), show Pt.upE x.2.1[0] b = 20 from by simp [Pt.upE, hu]]
        have : Ev.upTail x b [] x.2.1 = (zEv, 20) := by rw [e0]; exact Ev.upTail_none _ _ _ _ _ hu
        rw [this]
        exact ⟨_, canon_zEv 20, rfl⟩
      | some q =>
        rw [bif_neg (by simp [Pt.upE, hu]), show Pt.upV x.2.1[0] b = q from by simp [Pt.upV, hu]]
        have : Ev.upTail x b [] x.2.1 = Ev.upTail x b [q] (x.2.1.drop 1) := by
          have := Ev.upTail_some x b [] (x.2.1.drop 1) _ q hu
          rw [← e0] at this; exact this
        rw [this]
        obtain ⟨d, hd⟩ : ∃ d, x.2.1.length = d + 1 := ⟨x.2.1.length - 1, by omega⟩
        rw [hd]
        exact f19_loop kk x b hx hlen.1 d 1 [q] (by omega) (by simp)
    · have e0 : x.2.1 = [] := List.length_eq_zero_iff.1 (by omega)
      have ho : Ev.okm (x.withP []) = true := hx
      rw [bif_neg (by exact decide_eq_false (by omega)), e0, Ev.upTail_nil]
      rw [show (x.fst, ([] : List Pt), x.snd.snd.fst, x.snd.snd.snd.fst, x.snd.snd.snd.snd.fst, x.snd.snd.snd.snd.snd.fst, x.snd.snd.snd.snd.snd.snd.fst, x.snd.snd.snd.snd.snd.snd.snd.fst, x.snd.snd.snd.snd.snd.snd.snd.snd) = x.withP [] from rfl, bif_pos ho]
      cases hr : (x.withP []).right with
      | false => rw [if_neg (by decide)]; exact ⟨_, canon_zEv 60, rfl⟩
      | true => rw [if_pos rfl]; exact ⟨_, rfl, rfl⟩
def Ev.okUp (x : Ev) : Bool := Ev.okm x && decide (x.2.2.2.2.2.2.2.1.length * 8 ≤ bytesMost)
def f26e : Entry Tryd.prog gls := .one 26 true rVal (by intro h; cases h <;> rfl) (fun (x : Vl) => (true, ratR (Vl.len x))) fun x h => by
  have _ := h
  have hn := f26_run (fun v os => some (v, os)) x
  exact contract_run (fn := (fb Tryd.f26).1) (c := (fb Tryd.f26).2) mixed (ready10 8) (glE10 8) Tryd.func26 (by kernel_rfl) rfl rfl (by kernel_rfl) hn

def f18e : Entry Tryd.prog gls := .two 18 true rEvent true rIv (by intro h; cases h <;> rfl) (by intro h; cases h <;> rfl) (fun (x : Ev) (y : Int × Int) => (Ev.okUp x, evR (Ev.up x y))) fun x y h => by
  obtain ⟨n, v, hv, hn⟩ := f18_run (fun v os => some (v, os)) x y h
  have := contract_run (fn := (fb Tryd.f18).1) (c := (fb Tryd.f18).2) mixed (ready10 8) (glE10 8) Tryd.func18 (by kernel_rfl) rfl rfl (by kernel_rfl) hn
  exact this.canon2 (by intro h; cases h) hv
def f19e : Entry Tryd.prog gls := .two 19 true rEvent true rIv (by intro h; cases h <;> rfl) (by intro h; cases h <;> rfl) (fun (x : Ev) (y : Int × Int) => (Ev.okUp x, evR (Ev.up x y))) fun x y h => by
  obtain ⟨n, v, hv, hn⟩ := f19_run (fun v os => some (v, os)) x y h
  have := contract_run (fn := (fb Tryd.f19).1) (c := (fb Tryd.f19).2) mixed (ready10 8) (glE10 8) Tryd.func19 (by kernel_rfl) rfl rfl (by kernel_rfl) hn
  exact this.canon2 (by intro h; cases h) hv
noncomputable def es11 : List (Entry Tryd.prog gls) := [f26e, f18e, f19e] ++ es10
noncomputable def E11 (n : Nat) : Env := interp fns (look tys) gls mvs (tabOf es11) 100000 n
theorem ready11 (n : Nat) : Ready Tryd.prog (E11 n) := ready_of mixed fnsAll tysOk n
theorem glE11 (n : Nat) : (E11 n).gl = gls := by cases n <;> rfl
end Vm.S06

