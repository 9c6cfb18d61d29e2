/- Which events are right, and events up, as runs of the value machine. -/
import Derived.Test.YtlbkefgnblajlaaDoorLawA
import Derived.Test.YtlbkefgnblajlaaDoorVmE
import Derived.KernelRfl
import Derived.Test.YtlbkefgnblajlaaDoorWords
set_option maxRecDepth 100000
open Go Go.Proofs Go.IntKind
namespace Vm.S6b
variable {R : Type} (J : List Item → St → Option R) (kk : V → List Ob → Option R)
noncomputable abbrev f30cuts : Cuts := fun _ => none
theorem f30_go (s : List UInt8) :
 vseg (E6 8) f30cuts 0 J (vend (E6 8) 0 (fb Tryd.f30).1.results.toList false kk) 100000 true [.code (fb Tryd.f30).2] (start ([V.str s]) ([])) =
 (bif decide ((↑s.length : Int) ≤ (40 : Int)) then
 (bif U.valid s then
 kk (V.bool !decide ((0 : Int) ≤ U.oddAt s s.length (0 : Nat))) ([])
 else kk (V.bool false) ([]))
 else kk (V.bool false) ([])) := by kernel_rfl
noncomputable abbrev f31cuts : Cuts := look [(2, [0, 5, 6, 7])]
noncomputable abbrev f31t2 : List Item := itemsAt (fb Tryd.f31).2 2
def f31s0 (s : List Int) (n1 : Int) : St := { fr := [(0, V.sl rI s), (5, V.sl rI s), (6, V.int i64 (↑s.length : Int)), (7, V.int i64 n1)], hp := [], nx := 0 }
theorem f31_go (s : List Int) :
 vseg (E6 8) f31cuts 0 J (vend (E6 8) 0 (fb Tryd.f31).1.results.toList false kk) 100000 true [.code (fb Tryd.f31).2] (start ([V.sl rI s]) ([])) =
 J f31t2 (f31s0 s (0 : Int)) := by kernel_rfl
theorem f31_0 (s : List Int) (n1 : Int) :
 vseg (E6 8) f31cuts 0 J (vend (E6 8) 0 (fb Tryd.f31).1.results.toList false kk) 100000 true f31t2 (f31s0 s n1) =
 (bif decide (n1 < (↑s.length : Int)) then
 (match idx s n1 with
 | some y2 => (bif decide (y2 < (1 : Int)) then
 kk (V.bool false) ([])
 else (bif decide ((4 : Int) < y2) then
 kk (V.bool false) ([])
 else J f31t2 (f31s0 s (i64.wrap (n1 + (1 : Int))))))
 | none => none)
 else (bif decide (s.length < (4611686018427387904 : Nat)) then
 kk (V.bool (risesI s)) ([])
 else none)) := by kernel_rfl
noncomputable abbrev f35cuts : Cuts := look [(2, [0, 1, 7, 8])]
noncomputable abbrev f35t2 : List Item := itemsAt (fb Tryd.f35).2 2
def f35s0 (s : List Pt) (n1 : Int) : St := { fr := [(0, V.sl rPitch s), (1, V.fn 36 [] []), (7, V.int i64 (↑s.length : Int)), (8, V.int i64 n1)], hp := [], nx := 0 }
theorem f35_go (s : List Pt) :
 vseg (E6 8) f35cuts 0 J (vend (E6 8) 0 (fb Tryd.f35).1.results.toList false kk) 100000 true [.code (fb Tryd.f35).2] (start ([V.sl rPitch s, V.fn (36 : Nat) [] []]) ([])) =
 J f35t2 (f35s0 s (0 : Int)) := by kernel_rfl
theorem f35_0 (s : List Pt) (n1 : Int) :
 vseg (E6 8) f35cuts 0 J (vend (E6 8) 0 (fb Tryd.f35).1.results.toList false kk) 100000 true f35t2 (f35s0 s n1) =
 (bif decide (n1 < (↑s.length : Int)) then
 (bif decide ((0 : Int) < n1) then
 (match idx s n1 with
 | some y2 => (match idx s (i64.wrap (n1 - (1 : Int))) with
 | some y3 => (bif !decide ((0 : Int) < Pt.cmp y2 y3) then
 kk (V.bool false) ([])
 else J f35t2 (f35s0 s (i64.wrap (n1 + (1 : Int)))))
 | none => none)
 | none => none)
 else J f35t2 (f35s0 s (i64.wrap (n1 + (1 : Int)))))
 else kk (V.bool true) ([])) := by kernel_rfl
noncomputable abbrev f42cuts : Cuts := fun _ => none
theorem f42_go (p : Int × Int × Int) (b : Int × Int) :
 vseg (E6 8) f42cuts 0 J (vend (E6 8) 0 (fb Tryd.f42).1.results.toList false kk) 100000 true [.code (fb Tryd.f42).2] (start ([enc true rPitch p, enc true rIv b]) ([])) =
 (bif !Pt.right p then
 kk (V.tuple [V.agg [V.int i64 (0 : Int), V.int i64 (0 : Int), V.int i64 (0 : Int)], V.int i64 (20 : Int)]) ([])
 else (bif decide (b.fst < i64.wrap ((0 : Int) - (77 : Int))) then
 kk (V.tuple [V.agg [V.int i64 (0 : Int), V.int i64 (0 : Int), V.int i64 (0 : Int)], V.int i64 (20 : Int)]) ([])
 else (bif decide ((77 : Int) < b.fst) then
 kk (V.tuple [V.agg [V.int i64 (0 : Int), V.int i64 (0 : Int), V.int i64 (0 : Int)], V.int i64 (20 : Int)]) ([])
 else (bif decide (b.snd < (-254 : Int)) then
 kk (V.tuple [V.agg [V.int i64 (0 : Int), V.int i64 (0 : Int), V.int i64 (0 : Int)], V.int i64 (20 : Int)]) ([])
 else (bif decide ((254 : Int) < b.snd) then
 kk (V.tuple [V.agg [V.int i64 (0 : Int), V.int i64 (0 : Int), V.int i64 (0 : Int)], V.int i64 (20 : Int)]) ([])
 else (bif Pt.mild p then
 (bif decide (i64.wrap (i64.wrap (Pt.line p + b.fst) - (-7 : Int)) < (0 : Int)) then
 kk (V.tuple [V.agg [V.int i64 (0 : Int), V.int i64 (0 : Int), V.int i64 (0 : Int)], V.int i64 (20 : Int)]) ([])
 else (bif Pt.mild p then
 (bif Pt.mild ((i64.wrap (i64.wrap (Pt.line p + b.fst) - (-7 : Int))).tmod (7 : Int), Int.ofNat (0 : Nat), i64.wrap (i64.wrap ((i64.wrap (i64.wrap (Pt.line p + b.fst) - (-7 : Int))).tdiv (7 : Int)) + (-1 : Int))) then
 (bif !Pt.right ((i64.wrap (i64.wrap (Pt.line p + b.fst) - (-7 : Int))).tmod (7 : Int), i64.wrap (i64.wrap (Pt.num p + b.snd) - Pt.num ((i64.wrap (i64.wrap (Pt.line p + b.fst) - (-7 : Int))).tmod (7 : Int), Int.ofNat (0 : Nat), i64.wrap (i64.wrap ((i64.wrap (i64.wrap (Pt.line p + b.fst) - (-7 : Int))).tdiv (7 : Int)) + (-1 : Int)))), i64.wrap (i64.wrap ((i64.wrap (i64.wrap (Pt.line p + b.fst) - (-7 : Int))).tdiv (7 : Int)) + (-1 : Int))) then
 kk (V.tuple [V.agg [V.int i64 (0 : Int), V.int i64 (0 : Int), V.int i64 (0 : Int)], V.int i64 (20 : Int)]) ([])
 else kk (V.tuple [V.agg [V.int i64 ((i64.wrap (i64.wrap (Pt.line p + b.fst) - (-7 : Int))).tmod (7 : Int)), V.int i64 (i64.wrap (i64.wrap (Pt.num p + b.snd) - Pt.num ((i64.wrap (i64.wrap (Pt.line p + b.fst) - (-7 : Int))).tmod (7 : Int), Int.ofNat (0 : Nat), i64.wrap (i64.wrap ((i64.wrap (i64.wrap (Pt.line p + b.fst) - (-7 : Int))).tdiv (7 : Int)) + (-1 : Int))))), V.int i64 (i64.wrap (i64.wrap ((i64.wrap (i64.wrap (Pt.line p + b.fst) - (-7 : Int))).tdiv (7 : Int)) + (-1 : Int)))], V.int i64 (0 : Int)]) ([]))
 else none)
 else none))
 else none)))))) := by kernel_rfl
end Vm.S6b
open Go Go.Proofs
namespace Vm.S6b
theorem f30_run {R : Type} (kk : V → List Ob → Option R) (s : List UInt8) :
  vrun (E6 8) f30cuts 0 100000 (vend (E6 8) 0 (fb Tryd.f30).1.results.toList false kk) 1 [.code (fb Tryd.f30).2] (start [.str s] []) = kk (.bool (plain s)) [] := by
 rw [vrun_succ, f30_go]
 unfold plain
 by_cases h : s.length ≤ 40
 ·rw [bif_pos (by exact decide_eq_true (by omega)), decide_eq_true h, Bool.true_and]
  cases hv : U.valid s with
  | false => rfl
  | true =>
    have := U.oddAt_calm s s.length 0 (by omega) (by omega) hv
    rw [List.drop_zero] at this
    rw [cond_true, this, Bool.not_not, Bool.true_and]
 ·rw [bif_neg (by exact decide_eq_false (by omega)), decide_eq_false h, Bool.false_and]
theorem f31_loop {R : Type} (kk : V → List Ob → Option R) (l : List Int) (hb : l.length < 4611686018427387904) : ∀ (d i : Nat), i + d = l.length →
  vrun (E6 8) f31cuts 0 100000 (vend (E6 8) 0 (fb Tryd.f31).1.results.toList false kk) (d + 1) f31t2 (f31s0 l i) = kk (.bool ((l.drop i).all (fun m => decide (1 ≤ m ∧ m ≤ 4)) && risesI l)) [] := by
 intro d
 induction d with
 | zero =>
   intro i hi
   rw [vrun_succ, f31_0, bif_neg (by exact decide_eq_false (by omega)), bif_pos (decide_eq_true hb), List.drop_eq_nil_of_le (by omega)]; rfl
 | succ d ih =>
   intro i hi
   have hlt : i < l.length := by omega
   rw [vrun_succ, f31_0, bif_pos (by exact decide_eq_true (by omega)), wrap_succ (by omega), ih (i + 1) (by omega), idx_nat, List.getElem?_eq_getElem hlt]
   dsimp only
   rw [List.drop_eq_getElem_cons hlt, List.all_cons]
   by_cases h1 : l[i] < 1
   ·rw [bif_pos (decide_eq_true h1), show decide (1 ≤ l[i] ∧ l[i] ≤ 4) = false from decide_eq_false (by omega)]; rfl
   ·rw [bif_neg (decide_eq_false h1)]
    by_cases h4 : 4 < l[i]
    ·rw [bif_pos (decide_eq_true h4), show decide (1 ≤ l[i] ∧ l[i] ≤ 4) = false from decide_eq_false (by omega)]; rfl
    ·rw [bif_neg (decide_eq_false h4), show decide (1 ≤ l[i] ∧ l[i] ≤ 4) = true from decide_eq_true (by omega), Bool.true_and]
theorem f31_run {R : Type} (kk : V → List Ob → Option R) (l : List Int) (hb : l.length < 4611686018427387904) :
  ∃ n, vrun (E6 8) f31cuts 0 100000 (vend (E6 8) 0 (fb Tryd.f31).1.results.toList false kk) n [.code (fb Tryd.f31).2] (start [enc false srI' l] []) = kk (.bool (marked l)) [] := by
 refine ⟨l.length + 1 + 1, ?_⟩
 rw [vrun_succ]
 refine (f31_go _ kk l).trans ?_
 exact f31_loop kk l hb l.length 0 (by omega)
theorem f35_loop {R : Type} (kk : V → List Ob → Option R) (l : List Pt) (hb : l.length < 4611686018427387904) : ∀ (d i : Nat), i + d = l.length →
  vrun (E6 8) f35cuts 0 100000 (vend (E6 8) 0 (fb Tryd.f35).1.results.toList false kk) (d + 1) f35t2 (f35s0 l i) = kk (.bool (risesP (l.drop (i - 1)))) [] := by
 intro d
 induction d with
 | zero =>
   intro i hi
   rw [vrun_succ, f35_0, bif_neg (by exact decide_eq_false (by omega)), risesP_short (by rw [List.length_drop]; omega)]
 | succ d ih =>
   intro i hi
   have hlt : i < l.length := by omega
   rw [vrun_succ, f35_0, bif_pos (by exact decide_eq_true (by omega)), wrap_succ (by omega), ih (i + 1) (by omega)]
   match i, hi, hlt with
   | 0, hi, hlt => rw [bif_neg (by exact decide_eq_false (by omega))]
   | i + 1, hi, hlt =>
     rw [bif_pos (by exact decide_eq_true (by omega)), w64 (n := ((i + 1 : Nat) : Int) - 1) (by omega) (by omega), idx_nat, idx_get l _ i (by omega), List.getElem?_eq_getElem hlt, List.getElem?_eq_getElem (by omega : i < l.length)]
     dsimp only
     rw [show i + 1 - 1 = i from rfl, show i + 1 + 1 - 1 = i + 1 from rfl, risesP_drop l i hlt]
     by_cases h : Pt.cmp l[i + 1] l[i] > 0
     ·rw [bif_neg (by rw [show decide (0 < Pt.cmp l[i + 1] l[i]) = true from decide_eq_true h]; rfl), decide_eq_true h, Bool.true_and]
     ·rw [bif_pos (by rw [show decide (0 < Pt.cmp l[i + 1] l[i]) = false from decide_eq_false h]; rfl), decide_eq_false h, Bool.false_and]
theorem f35_run {R : Type} (kk : V → List Ob → Option R) (l : List Pt) (hb : l.length < 4611686018427387904) :
  ∃ n, vrun (E6 8) f35cuts 0 100000 (vend (E6 8) 0 (fb Tryd.f35).1.results.toList false kk) n [.code (fb Tryd.f35).2] (start [enc false (.cons (.sl rPitch) .nil) l, .fn 36 [] []] []) = kk (.bool (risesP l)) [] := by
 refine ⟨l.length + 1 + 1, ?_⟩
 rw [vrun_succ]
 refine (f35_go _ kk l).trans ?_
 exact f35_loop kk l hb l.length 0 (by omega)
end Vm.S6b
open Go Go.Proofs
namespace Vm.S6b
abbrev upR (p : Pt) (b : Int × Int) : V := .tuple [enc true rPitch (Pt.upV p b), .int .i64 (Pt.upE p b)]
theorem upR_none {p : Pt} {b : Int × Int} (h : Pt.up p b = none) : upR p b = .tuple [.agg [.int .i64 0, .int .i64 0, .int .i64 0], .int .i64 20] := by
 simp only [upR, Pt.upV, Pt.upE, h]; rfl
theorem f42_run {R : Type} (kk : V → List Ob → Option R) (p : Pt) (b : Int × Int) :
  vrun (E6 8) f42cuts 0 100000 (vend (E6 8) 0 (fb Tryd.f42).1.results.toList false kk) 1 [.code (fb Tryd.f42).2] (start [enc true rPitch p, enc true rIv b] []) = kk (upR p b) [] := by
 rw [vrun_succ, f42_go]
 cases hp : Pt.right p with
 | false => rw [upR_none (Pt.up_wrong hp)]; rfl
 | true =>
   rw [bif_neg (by rfl), w64 (n := (0 : Int) - 77) (by decide) (by decide)]
   have hl := Pt.line_le hp
   have hr := (Pt.right_iff p).1 hp
   by_cases hb : -77 ≤ b.1 ∧ b.1 ≤ 77 ∧ -254 ≤ b.2 ∧ b.2 ≤ 254
   ·obtain ⟨b1, b2, b3, b4⟩ := hb
    rw [bif_neg (by exact decide_eq_false (by omega)), bif_neg (by exact decide_eq_false (by omega)), bif_neg (by exact decide_eq_false (by omega)), bif_neg (by exact decide_eq_false (by omega)), Pt.mild_of hp, cond_true, w64 (n := p.line + b.1) (by omega) (by omega), w64 (n := p.line + b.1 - -7) (by omega) (by omega), show p.line + b.1 - -7 = p.line + b.1 + 7 from by omega]
    generalize ht : p.line + b.1 + 7 = t
    by_cases h0 : t < 0
    ·rw [bif_pos (decide_eq_true h0)]
     have : Pt.up p b = none := by unfold Pt.up; rw [decide_eq_false (p := 0 ≤ p.line + b.1 + 7) (by omega)]; simp
     rw [upR_none this]
    ·rw [bif_neg (decide_eq_false h0), cond_true, Int.tmod_eq_emod_of_nonneg (by omega), Int.tdiv_eq_ediv_of_nonneg (by omega), w64 (n := t / 7) (by omega) (by omega), w64 (n := t / 7 + -1) (by omega) (by omega), show t / 7 + -1 = t / 7 - 1 from by omega]
     have hm : Pt.mild (t % 7, Int.ofNat 0, t / 7 - 1) = true := by simp only [Pt.mild, decide_eq_true_eq]; simp; omega
     have hh := Pt.half_le (s := t % 7) (by omega) (by omega)
     have hz : Pt.num (t % 7, Int.ofNat 0, t / 7 - 1) = 12 * (t / 7 - 1 + 1) + Pt.half (t % 7) + 0 := rfl
     rw [hm, cond_true, w64 (n := p.num + b.2) (by omega) (by omega), w64 (n := p.num + b.2 - Pt.num (t % 7, Int.ofNat 0, t / 7 - 1)) (by rw [hz]; omega) (by rw [hz]; omega)]
     have ht' : (t % 7, p.num + b.2 - Pt.num (t % 7, Int.ofNat 0, t / 7 - 1), t / 7 - 1) = Pt.upTo p b := by unfold Pt.upTo; rw [ht]; rfl
     rw [ht']
     cases hu : Pt.right (Pt.upTo p b) with
     | false =>
       have : Pt.up p b = none := by unfold Pt.up; rw [hu]; simp
       rw [upR_none this]; rfl
     | true =>
       have : Pt.up p b = some (Pt.upTo p b) := by unfold Pt.up; rw [hu, hp, decide_eq_true (p := 0 ≤ p.line + b.1 + 7) (by omega)]; rfl
       rw [bif_neg (by rfl)]
       simp only [upR, Pt.upV, Pt.upE, this, Option.getD_some, Option.isSome_some, if_true]
       rw [← ht']; rfl
   ·rw [upR_none (Pt.up_none (by omega))]
    simp only [Bool.cond_eq_ite, decide_eq_true_eq]
    repeat' split
    all_goals first | rfl | (exfalso; omega)
noncomputable def f30e : Entry Tryd.prog gls := .one 30 false rS (by intro h; cases h <;> rfl) (fun (x : List UInt8) => (true, .bool (plain x))) fun x h => by
 have _ := h
 have hn := f30_run (fun v os => some (v, os)) x
 exact contract_run (fn := (fb Tryd.f30).1) (c := (fb Tryd.f30).2) mixed (ready6 8) (glE6 8) Tryd.func30 (by kernel_rfl) rfl rfl (by kernel_rfl) hn
abbrev srP' : Ks := .cons (.sl rPitch) .nil
noncomputable def f31e : Entry Tryd.prog gls := .one 31 false srI' (by intro h; cases h <;> rfl) (fun (x : List Int) => (decide (x.length < 4611686018427387904), .bool (marked x))) fun x h => by
 have _ := h
 obtain ⟨n, hn⟩ := f31_run (fun v os => some (v, os)) x (of_decide_eq_true h)
 exact contract_run (fn := (fb Tryd.f31).1) (c := (fb Tryd.f31).2) mixed (ready6 8) (glE6 8) Tryd.func31 (by kernel_rfl) rfl rfl (by kernel_rfl) hn
noncomputable def f35e : Entry Tryd.prog gls := .oneF 35 false srP' (by intro h; cases h <;> rfl) 36 (fun (x : List Pt) => (decide (x.length < 4611686018427387904), .bool (risesP x))) fun x h => by
 have _ := h
 obtain ⟨n, hn⟩ := f35_run (fun v os => some (v, os)) x (of_decide_eq_true h)
 exact contract_run (fn := (fb Tryd.f35).1) (c := (fb Tryd.f35).2) mixed (ready6 8) (glE6 8) Tryd.func35 (by kernel_rfl) rfl rfl (by kernel_rfl) hn
noncomputable def f42e : Entry Tryd.prog gls := .two 42 true rPitch true rIv (by intro h; cases h <;> rfl) (by intro h; cases h <;> rfl) (fun (x : Pt) (y : Int × Int) => (true, upR x y)) fun x y h => by
 have _ := h
 have hn := f42_run (fun v os => some (v, os)) x y
 exact contract_run (fn := (fb Tryd.f42).1) (c := (fb Tryd.f42).2) mixed (ready6 8) (glE6 8) Tryd.func42 (by kernel_rfl) rfl rfl (by kernel_rfl) hn
noncomputable def es7 : List (Entry Tryd.prog gls) := [f30e, f31e, f35e, f42e] ++ es6
noncomputable def E7 (n : Nat) : Env := interp fns (look tys) gls mvs (tabOf es7) 100000 n
theorem ready7 (n : Nat) : Ready Tryd.prog (E7 n) := ready_of mixed fnsAll tysOk rfsOk n
theorem glE7 (n : Nat) : (E7 n).gl = gls := by cases n <;> rfl
end Vm.S6b
open Go Go.Proofs Go.IntKind
namespace Vm.S6b
variable {R : Type} (J : List Item → St → Option R) (kk : V → List Ob → Option R)
noncomputable abbrev f14cuts : Cuts := look [(3, [1]), (5, [1]), (8, [1, 64, 65, 66])]
noncomputable abbrev f14t8 : List Item := itemsAt (fb Tryd.f14).2 8
noncomputable abbrev f14t5 : List Item := itemsAt (fb Tryd.f14).2 5
noncomputable abbrev f14t3 : List Item := itemsAt (fb Tryd.f14).2 3
def f14s0 (x1 : Ev) : St := { fr := [(1, V.ref 0 0 0 0)], hp := [(0, Ob.var [V.int i64 x1.fst, V.sl rPitch x1.snd.fst, V.sl rB x1.snd.snd.fst, V.int i64 x1.snd.snd.snd.fst, V.int i64 x1.snd.snd.snd.snd.fst, V.int i64 x1.snd.snd.snd.snd.snd.fst, V.int i64 x1.snd.snd.snd.snd.snd.snd.fst, V.sl rI x1.snd.snd.snd.snd.snd.snd.snd.fst, V.str x1.snd.snd.snd.snd.snd.snd.snd.snd])], nx := 1 }
def f14s1 (x2 : Ev) : St := { fr := [(1, V.ref 0 0 0 0)], hp := [(0, Ob.var [V.int i64 x2.fst, V.sl rPitch x2.snd.fst, V.sl rB x2.snd.snd.fst, V.int i64 x2.snd.snd.snd.fst, V.int i64 x2.snd.snd.snd.snd.fst, V.int i64 x2.snd.snd.snd.snd.snd.fst, V.int i64 x2.snd.snd.snd.snd.snd.snd.fst, V.sl rI x2.snd.snd.snd.snd.snd.snd.snd.fst, V.str x2.snd.snd.snd.snd.snd.snd.snd.snd])], nx := 1 }
def f14s2 (x2 : Ev) (n3 : Int) (x4 : Ev) : St := { fr := [(1, V.ref 0 0 0 0), (64, V.sl rPitch x2.snd.fst), (65, V.int i64 (↑x2.snd.fst.length : Int)), (66, V.int i64 n3)], hp := [(0, Ob.var [V.int i64 x4.fst, V.sl rPitch x4.snd.fst, V.sl rB x4.snd.snd.fst, V.int i64 x4.snd.snd.snd.fst, V.int i64 x4.snd.snd.snd.snd.fst, V.int i64 x4.snd.snd.snd.snd.snd.fst, V.int i64 x4.snd.snd.snd.snd.snd.snd.fst, V.sl rI x4.snd.snd.snd.snd.snd.snd.snd.fst, V.str x4.snd.snd.snd.snd.snd.snd.snd.snd])], nx := 1 }
theorem f14_go (x : Ev) :
 vseg (E7 8) f14cuts 0 J (vend (E7 8) 0 (fb Tryd.f14).1.results.toList false kk) 100000 true [.code (fb Tryd.f14).2] (start ([enc true rEvent x]) ([])) =
 (bif !Vl.right (x.snd.snd.snd.fst, x.snd.snd.snd.snd.fst, x.snd.snd.snd.snd.snd.fst, x.snd.snd.snd.snd.snd.snd.fst) then
 kk (V.bool false) ([])
 else (bif !plain x.snd.snd.snd.snd.snd.snd.snd.snd then
 kk (V.bool false) ([])
 else (bif decide (List.length x.snd.snd.snd.snd.snd.snd.snd.fst < (4611686018427387904 : Nat)) then
 (bif !marked x.snd.snd.snd.snd.snd.snd.snd.fst then
 kk (V.bool false) ([])
 else (bif !decide ((↑(List.length x.snd.snd.fst) : Int) = (↑(List.length x.snd.fst) : Int)) then
 kk (V.bool false) ([])
 else J f14t3 (f14s0 x)))
 else none))) := by kernel_rfl
theorem f14_0 (x1 : Ev) :
 vseg (E7 8) f14cuts 0 J (vend (E7 8) 0 (fb Tryd.f14).1.results.toList false kk) 100000 true f14t3 (f14s0 x1) =
 (bif decide (x1.fst = (0 : Int)) then
 (bif decide ((↑x1.snd.fst.length : Int) = (0 : Int)) then
 (bif x1.snd.snd.snd.snd.snd.snd.snd.snd == ([] : List UInt8) then
 (bif decide (x1.snd.snd.snd.snd.snd.snd.snd.fst.length < (4611686018427387904 : Nat)) then
 kk (V.bool !decide ((0 : Int) ≤ notFour x1.snd.snd.snd.snd.snd.snd.snd.fst (0 : Nat))) ([])
 else none)
 else kk (V.bool false) ([]))
 else kk (V.bool false) ([]))
 else J f14t5 (f14s1 x1)) := by kernel_rfl
theorem f14_1 (x2 : Ev) :
 vseg (E7 8) f14cuts 0 J (vend (E7 8) 0 (fb Tryd.f14).1.results.toList false kk) 100000 true f14t5 (f14s1 x2) =
 (bif !decide (x2.fst = (1 : Int)) then
 kk (V.bool false) ([])
 else (bif decide ((↑x2.snd.fst.length : Int) < (1 : Int)) then
 kk (V.bool false) ([])
 else (bif decide ((8 : Int) < (↑x2.snd.fst.length : Int)) then
 kk (V.bool false) ([])
 else J f14t8 (f14s2 x2 (0 : Int) x2)))) := by kernel_rfl
theorem f14_2 (x2 : Ev) (n3 : Int) (x4 : Ev) :
 vseg (E7 8) f14cuts 0 J (vend (E7 8) 0 (fb Tryd.f14).1.results.toList false kk) 100000 true f14t8 (f14s2 x2 n3 x4) =
 (bif decide (n3 < (↑x2.snd.fst.length : Int)) then
 (match idx x2.snd.fst n3 with
 | some y5 => (bif !Pt.right y5 then
 kk (V.bool false) ([])
 else J f14t8 (f14s2 x2 (i64.wrap (n3 + (1 : Int))) x4))
 | none => none)
 else (bif decide (x4.snd.fst.length < (4611686018427387904 : Nat)) then
 kk (V.bool (risesP x4.snd.fst)) ([])
 else none)) := by kernel_rfl
end Vm.S6b
open Go Go.Proofs
namespace Vm.S6b
theorem f14_loop {R : Type} (kk : V → List Ob → Option R) (x y : Ev) (hb : x.2.1.length < 4611686018427387904) (hy : y.2.1.length < 4611686018427387904) : ∀ (d i : Nat), i + d = x.2.1.length →
  vrun (E7 8) f14cuts 0 100000 (vend (E7 8) 0 (fb Tryd.f14).1.results.toList false kk) (d + 1) f14t8 (f14s2 x i y) = kk (.bool ((x.2.1.drop i).all Pt.right && risesP y.2.1)) [] := by
 intro d
 induction d with
 | zero =>
   intro i hi
   rw [vrun_succ, f14_2, bif_neg (by exact decide_eq_false (by omega)), bif_pos (decide_eq_true hy), List.drop_eq_nil_of_le (by omega)]; rfl
 | succ d ih =>
   intro i hi
   have hlt : i < x.2.1.length := by omega
   rw [vrun_succ, f14_2, bif_pos (by exact decide_eq_true (by omega)), wrap_succ (by omega), ih (i + 1) (by omega), idx_nat, List.getElem?_eq_getElem hlt]
   dsimp only
   rw [List.drop_eq_getElem_cons hlt, List.all_cons]
   cases Pt.right x.2.1[i] <;> rfl
theorem cond_not_kb {R : Type} (kk : V → List Ob → Option R) (c : Bool) (X : Option R) (b : Bool) (h : c = true → X = kk (.bool b) []) : (bif !c then kk (.bool false) [] else X) = kk (.bool (c && b)) [] := by
 cases c with
 | false => rfl
 | true => exact h rfl
theorem f14_run {R : Type} (kk : V → List Ob → Option R) (x : Ev) (hm : Ev.okm x = true) :
  ∃ n, vrun (E7 8) f14cuts 0 100000 (vend (E7 8) 0 (fb Tryd.f14).1.results.toList false kk) n [.code (fb Tryd.f14).2] (start [enc true rEvent x] []) = kk (.bool (Ev.right x)) [] := by
 refine ⟨x.2.1.length + 1 + 1 + 1 + 1, ?_⟩
 rw [vrun_succ, f14_go, Ev.right_eq]
 refine cond_not_kb kk _ _ _ fun h1 => cond_not_kb kk _ _ _ fun h2 => ?_
 have hm' : decide (x.snd.snd.snd.snd.snd.snd.snd.fst.length < 4611686018427387904) = true := hm
 rw [bif_pos hm']
 refine cond_not_kb kk _ _ _ fun h3 => ?_
 rw [show decide ((x.snd.snd.fst.length : Int) = (x.snd.fst.length : Int)) = decide (x.ties.length = x.pitches.length) from decide_eq_decide.2 ⟨fun h => Int.ofNat_inj.1 h, fun h => congrArg Int.ofNat h⟩]
 refine cond_not_kb kk _ _ _ fun h4 => ?_
 rw [vrun_succ, f14_0]
 unfold Ev.shape
 by_cases hk : x.1 = 0
 ·rw [bif_pos (decide_eq_true hk), if_pos (show x.kind = 0 from hk)]
  by_cases hp : x.2.1.length = 0
  ·rw [bif_pos (by exact decide_eq_true (by omega)), show decide (x.pitches.length = 0) = true from decide_eq_true hp, Bool.true_and]
   by_cases hw : x.2.2.2.2.2.2.2.2 = []
   ·rw [show decide (x.word = []) = true from decide_eq_true hw, hw, bif_pos (by rfl), bif_pos hm', notFour_neg, Bool.not_not, Bool.true_and]; rfl
   ·rw [show decide (x.word = []) = false from decide_eq_false hw, bif_neg (by simpa using hw)]; rfl
  ·rw [bif_neg (by exact decide_eq_false (by omega)), show decide (x.pitches.length = 0) = false from decide_eq_false hp]; rfl
 ·rw [bif_neg (decide_eq_false hk), if_neg (show ¬ x.kind = 0 from hk), vrun_succ, f14_1]
  refine cond_not_kb kk _ _ _ fun h5 => ?_
  by_cases p1 : x.2.1.length < 1
  ·rw [bif_pos (by exact decide_eq_true (by omega)), show decide (1 ≤ x.pitches.length) = false from decide_eq_false (by simp only [Ev.pitches]; omega)]; rfl
  ·rw [bif_neg (by exact decide_eq_false (by omega)), show decide (1 ≤ x.pitches.length) = true from decide_eq_true (by simp only [Ev.pitches]; omega), Bool.true_and]
   by_cases p8 : 8 < x.2.1.length
   ·rw [bif_pos (by exact decide_eq_true (by omega)), show decide (x.pitches.length ≤ 8) = false from decide_eq_false (by simp only [Ev.pitches]; omega)]; rfl
   ·rw [bif_neg (by exact decide_eq_false (by omega)), show decide (x.pitches.length ≤ 8) = true from decide_eq_true (by simp only [Ev.pitches]; omega), Bool.true_and]
    exact f14_loop kk x x (by omega) (by omega) x.2.1.length 0 (by omega)
noncomputable def f14e : Entry Tryd.prog gls := .one 14 true rEvent (by intro h; cases h <;> rfl) (fun (x : Ev) => (Ev.okm x, .bool (Ev.right x))) fun x h => by
 have _ := h
 obtain ⟨n, hn⟩ := f14_run (fun v os => some (v, os)) x h
 exact contract_run (fn := (fb Tryd.f14).1) (c := (fb Tryd.f14).2) mixed (ready7 8) (glE7 8) Tryd.func14 (by kernel_rfl) rfl rfl (by kernel_rfl) hn
noncomputable def es8 : List (Entry Tryd.prog gls) := [f14e] ++ es7
end Vm.S6b
open Go Go.Proofs
namespace Vm.S6b
abbrev rU : Ks := .cons (.int .u64) .nil
def ltB (b : Int) (k : Nat) : Bool := decide (b < k)
structure CommonBelow (k : Nat) : Prop where
 says : ∀ a b : Int, (posB a b && ltB b k) = true → Contract Tryd.prog gls 93 [enc false rU a, enc false rU b] [] (.int .u64 (gcdI a b)) []
noncomputable def es9 : List (Entry Tryd.prog gls) := es8
end Vm.S6b
open Go Go.Proofs
namespace Vm.S6b
noncomputable def es10 : List (Entry Tryd.prog gls) := es9 ++ es3
noncomputable def E10 (n : Nat) : Env := interp fns (look tys) gls mvs (tabOf es10) 100000 n
theorem ready10 (n : Nat) : Ready Tryd.prog (E10 n) := ready_of mixed fnsAll tysOk rfsOk n
theorem glE10 (n : Nat) : (E10 n).gl = gls := by cases n <;> rfl
end Vm.S6b
open Go Go.Proofs Go.IntKind
namespace Vm.S6b
variable {R : Type} (J : List Item → St → Option R) (kk : V → List Ob → Option R)
noncomputable abbrev f16cuts : Cuts := look [(7, [3, 4, 6, 26, 27, 28])]
noncomputable abbrev f16t7 : List Item := itemsAt (fb Tryd.f16).2 7
def f16s0 (x : Ev) (n1 : Int) (x2 : Int × Int) (n3 n4 n5 n6 n7 : Int) (s8 : List UInt8) (n9 : Int) (l10 : List Bool) (n11 n12 n13 n14 : Int) (l15 : List Int) (s16 : List UInt8) : St := { fr := [(3, V.ref 0 0 0 0), (4, V.ref 1 0 0 0), (6, V.ref 2 0 0 0), (26, V.sl rPitch x.snd.fst), (27, V.int i64 (↑(List.length x.snd.fst) : Int)), (28, V.int i64 n1)], hp := [(0, Ob.var [V.int i64 x2.fst, V.int i64 x2.snd]), (1, Ob.var [V.int i64 n3, V.nilsl, V.nilsl, V.int i64 n4, V.int i64 n5, V.int i64 n6, V.int i64 n7, V.nilsl, V.str s8]), (2, Ob.var [V.int i64 n9, V.nilsl, V.sl rB l10, V.int i64 n11, V.int i64 n12, V.int i64 n13, V.int i64 n14, V.sl rI l15, V.str s16])], nx := 3 }
def f16s1 (x : Ev) (n18 : Int) (x19 : Int × Int) (n20 n21 n22 n23 n24 : Int) (s25 : List UInt8) (n26 : Int) (l27 : List Bool) (n28 n29 n30 n31 : Int) (l32 : List Int) (s33 : List UInt8) (l34 : List Pt) : St := { fr := [(3, V.ref 0 0 0 0), (4, V.ref 1 0 0 0), (6, V.ref 2 0 0 0), (26, V.sl rPitch x.snd.fst), (27, V.int i64 (↑(List.length x.snd.fst) : Int)), (28, V.int i64 n18)], hp := [(0, Ob.var [V.int i64 x19.fst, V.int i64 x19.snd]), (1, Ob.var [V.int i64 n20, V.nilsl, V.nilsl, V.int i64 n21, V.int i64 n22, V.int i64 n23, V.int i64 n24, V.nilsl, V.str s25]), (2, Ob.var [V.int i64 n26, V.own 3, V.sl rB l27, V.int i64 n28, V.int i64 n29, V.int i64 n30, V.int i64 n31, V.sl rI l32, V.str s33]), (3, Ob.arr rPitch l34 false)], nx := 4 }
theorem f16_go (x : Ev) (b : Int × Int) :
 vseg (E10 8) f16cuts 0 J (vend (E10 8) 0 (fb Tryd.f16).1.results.toList false kk) 100000 true [.code (fb Tryd.f16).2] (start ([enc true rEvent x, enc true rIv b]) ([])) =
 (bif Ev.okm x then
 (bif !Ev.right x then
 kk (V.tuple [V.agg [V.int i64 (0 : Int), V.nilsl, V.nilsl, V.int i64 (0 : Int), V.int i64 (0 : Int), V.int i64 (0 : Int), V.int i64 (0 : Int), V.nilsl, V.str []], V.int i64 (60 : Int)]) ([])
 else (bif decide (List.length x.snd.snd.fst * (1 : Nat) ≤ bytesMost) then
 (bif decide (List.length x.snd.snd.snd.snd.snd.snd.snd.fst * (8 : Nat) ≤ bytesMost) then
 J f16t7 (f16s0 x (0 : Int) b (0 : Int) (0 : Int) (0 : Int) (0 : Int) (0 : Int) ([]) (x.fst) (x.snd.snd.fst) (x.snd.snd.snd.fst) (x.snd.snd.snd.snd.fst) (x.snd.snd.snd.snd.snd.fst) (x.snd.snd.snd.snd.snd.snd.fst) (x.snd.snd.snd.snd.snd.snd.snd.fst) (x.snd.snd.snd.snd.snd.snd.snd.snd))
 else none)
 else none))
 else none) := by kernel_rfl
theorem f16_0 (x : Ev) (n1 : Int) (x2 : Int × Int) (n3 n4 n5 n6 n7 : Int) (s8 : List UInt8) (n9 : Int) (l10 : List Bool) (n11 n12 n13 n14 : Int) (l15 : List Int) (s16 : List UInt8) :
 vseg (E10 8) f16cuts 0 J (vend (E10 8) 0 (fb Tryd.f16).1.results.toList false kk) 100000 true f16t7 (f16s0 x n1 x2 n3 n4 n5 n6 n7 s8 n9 l10 n11 n12 n13 n14 l15 s16) =
 (bif decide (n1 < (↑(List.length x.snd.fst) : Int)) then
 (match idx x.snd.fst n1 with
 | some y17 => (bif !decide (Pt.upE y17 x2 = (0 : Int)) then
 kk (V.tuple [V.agg [V.int i64 (0 : Int), V.nilsl, V.nilsl, V.int i64 (0 : Int), V.int i64 (0 : Int), V.int i64 (0 : Int), V.int i64 (0 : Int), V.nilsl, V.str []], V.int i64 (Pt.upE y17 x2)]) ([])
 else J f16t7 (f16s1 x (i64.wrap (n1 + (1 : Int))) x2 n3 n4 n5 n6 n7 s8 n9 l10 n11 n12 n13 n14 l15 s16 ([Pt.upV y17 x2])))
 | none => none)
 else (bif Ev.okm (n9, [], l10, n11, n12, n13, n14, l15, s16) then
 (bif !Ev.right (n9, [], l10, n11, n12, n13, n14, l15, s16) then
 kk (V.tuple [V.agg [V.int i64 (0 : Int), V.nilsl, V.nilsl, V.int i64 (0 : Int), V.int i64 (0 : Int), V.int i64 (0 : Int), V.int i64 (0 : Int), V.nilsl, V.str []], V.int i64 (60 : Int)]) ([])
 else kk (V.tuple [V.agg [V.int i64 n9, V.nilsl, V.sl rB l10, V.int i64 n11, V.int i64 n12, V.int i64 n13, V.int i64 n14, V.sl rI l15, V.str s16], V.int i64 (0 : Int)]) ([]))
 else none)) := by kernel_rfl
theorem f16_1 (x : Ev) (n18 : Int) (x19 : Int × Int) (n20 n21 n22 n23 n24 : Int) (s25 : List UInt8) (n26 : Int) (l27 : List Bool) (n28 n29 n30 n31 : Int) (l32 : List Int) (s33 : List UInt8) (l34 : List Pt) :
 vseg (E10 8) f16cuts 0 J (vend (E10 8) 0 (fb Tryd.f16).1.results.toList false kk) 100000 true f16t7 (f16s1 x n18 x19 n20 n21 n22 n23 n24 s25 n26 l27 n28 n29 n30 n31 l32 s33 l34) =
 (bif decide (n18 < (↑(List.length x.snd.fst) : Int)) then
 (match idx x.snd.fst n18 with
 | some y35 => (bif !decide (Pt.upE y35 x19 = (0 : Int)) then
 kk (V.tuple [V.agg [V.int i64 (0 : Int), V.nilsl, V.nilsl, V.int i64 (0 : Int), V.int i64 (0 : Int), V.int i64 (0 : Int), V.int i64 (0 : Int), V.nilsl, V.str []], V.int i64 (Pt.upE y35 x19)]) ([])
 else (bif decide ((l34.length + 1) * 24 ≤ bytesMost) then
 J f16t7 (f16s1 x (i64.wrap (n18 + (1 : Int))) x19 n20 n21 n22 n23 n24 s25 n26 l27 n28 n29 n30 n31 l32 s33 (l34 ++ [Pt.upV y35 x19]))
 else none))
 | none => none)
 else (bif Ev.okm (n26, l34, l27, n28, n29, n30, n31, l32, s33) then
 (bif !Ev.right (n26, l34, l27, n28, n29, n30, n31, l32, s33) then
 kk (V.tuple [V.agg [V.int i64 (0 : Int), V.nilsl, V.nilsl, V.int i64 (0 : Int), V.int i64 (0 : Int), V.int i64 (0 : Int), V.int i64 (0 : Int), V.nilsl, V.str []], V.int i64 (60 : Int)]) ([])
 else kk (V.tuple [V.agg [V.int i64 n26, V.sl rPitch l34, V.sl rB l27, V.int i64 n28, V.int i64 n29, V.int i64 n30, V.int i64 n31, V.sl rI l32, V.str s33], V.int i64 (0 : Int)]) ([]))
 else none)) := by kernel_rfl
end Vm.S6b
open Go Go.Proofs
namespace Vm.S6b
abbrev evR (x : Ev × Int) : V := .tuple [enc true rEvent x.1, .int .i64 x.2]
abbrev zEvV : V := V.agg [V.int IntKind.i64 (0 : Int), V.nilsl, V.nilsl, V.int IntKind.i64 (0 : Int), V.int IntKind.i64 (0 : Int), V.int IntKind.i64 (0 : Int), V.int IntKind.i64 (0 : Int), V.nilsl, V.str []]
theorem canon_zEv (e : Int) : canon2 true rEvent (.tuple [zEvV, .int .i64 e]) = some (zEv, .int .i64 e) := by rfl
theorem f16_loop {R : Type} (kk : V → List Ob → Option R) (x : Ev) (b : Int × Int) (hx : Ev.okm x = true) (hb : x.2.1.length ≤ 8) : ∀ (d i : Nat) (l : List Pt), i + d = x.2.1.length → l.length ≤ i →
  ∃ v, canon2 true rEvent v = some ((Ev.upTail x b l (x.2.1.drop i)).1, .int .i64 (Ev.upTail x b l (x.2.1.drop i)).2) ∧
  vrun (E10 8) f16cuts 0 100000 (vend (E10 8) 0 (fb Tryd.f16).1.results.toList false kk) (d + 1) f16t7 (f16s1 x i b 0 0 0 0 0 [] x.1 x.2.2.1 x.2.2.2.1 x.2.2.2.2.1 x.2.2.2.2.2.1 x.2.2.2.2.2.2.1 x.2.2.2.2.2.2.2.1 x.2.2.2.2.2.2.2.2 l) = kk v [] := by
 intro d
 induction d with
 | zero =>
   intro i l hi hl
   have ho : Ev.okm (x.withP l) = true := hx
   rw [vrun_succ, f16_1, bif_neg (by exact decide_eq_false (by omega)), List.drop_eq_nil_of_le (by omega), Ev.upTail_nil]
   rw [show (x.fst, l, x.snd.snd.fst, x.snd.snd.snd.fst, x.snd.snd.snd.snd.fst, x.snd.snd.snd.snd.snd.fst, x.snd.snd.snd.snd.snd.snd.fst, x.snd.snd.snd.snd.snd.snd.snd.fst, x.snd.snd.snd.snd.snd.snd.snd.snd) = x.withP l from rfl, bif_pos ho]
   cases hr : (x.withP l).right with
   | false => rw [if_neg (by decide)]; exact ⟨_, canon_zEv 60, rfl⟩
   | true => rw [if_pos rfl]; exact ⟨_, rfl, rfl⟩
 | succ d ih =>
   intro i l hi hl
   have hlt : i < x.2.1.length := by omega
   rw [vrun_succ, f16_1, bif_pos (by exact decide_eq_true (by omega)), wrap_succ (by omega), idx_nat, List.getElem?_eq_getElem hlt, List.drop_eq_getElem_cons hlt]
   dsimp only
   cases hu : Pt.up x.2.1[i] b with
   | none =>
     rw [Ev.upTail_none _ _ _ _ _ hu, bif_pos (by simp [Pt.upE, hu]), show Pt.upE x.2.1[i] b = 20 from by simp [Pt.upE, hu]]
     exact ⟨_, canon_zEv 20, rfl⟩
   | some q =>
     rw [Ev.upTail_some _ _ _ _ _ _ hu, bif_neg (by simp [Pt.upE, hu]), bif_pos (by exact decide_eq_true (by simp [bytesMost]; omega)), show Pt.upV x.2.1[i] b = q from by simp [Pt.upV, hu]]
     exact ih (i + 1) (l ++ [q]) (by omega) (by simp; omega)
theorem f16_run {R : Type} (kk : V → List Ob → Option R) (x : Ev) (b : Int × Int) (h : (Ev.okm x && decide (x.2.2.2.2.2.2.2.1.length * 8 ≤ bytesMost)) = true) :
  ∃ n v, canon2 true rEvent v = some ((Ev.up x b).1, .int .i64 (Ev.up x b).2) ∧
  vrun (E10 8) f16cuts 0 100000 (vend (E10 8) 0 (fb Tryd.f16).1.results.toList false kk) n [.code (fb Tryd.f16).2] (start [enc true rEvent x, enc true rIv b] []) = kk v [] := by
 rw [Bool.and_eq_true] at h
 obtain ⟨hx, hm⟩ := h
 refine ⟨x.2.1.length + 1 + 1, ?_⟩
 rw [vrun_succ, f16_go, bif_pos hx]
 unfold Ev.up
 cases hr : x.right with
 | false => rw [if_neg (by decide)]; exact ⟨_, canon_zEv 60, rfl⟩
 | true =>
   rw [if_pos rfl, bif_neg (by rfl)]
   have hlen : x.2.1.length ≤ 8 ∧ x.2.2.1.length = x.2.1.length := Ev.right_len hr
   rw [bif_pos (by exact decide_eq_true (by simp [bytesMost]; omega)), bif_pos hm, vrun_succ, f16_0]
   by_cases h0 : 0 < x.2.1.length
   ·rw [bif_pos (by exact decide_eq_true (by omega)), idx_get x.2.1 (0 : Int) 0 rfl, List.getElem?_eq_getElem h0, w64 (n := 0 + 1) (by decide) (by decide)]
    dsimp only
    have e0 : x.2.1 = x.2.1[0] :: x.2.1.drop 1 := by
     have := List.drop_eq_getElem_cons h0
     rwa [List.drop_zero] at this
    cases hu : Pt.up x.2.1[0] b with
    | none =>
      rw [bif_pos (by simp [Pt.upE, hu]), show Pt.upE x.2.1[0] b = 20 from by simp [Pt.upE, hu]]
      have : Ev.upTail x b [] x.2.1 = (zEv, 20) := by rw [e0]; exact Ev.upTail_none _ _ _ _ _ hu
      rw [this]
      exact ⟨_, canon_zEv 20, rfl⟩
    | some q =>
      rw [bif_neg (by simp [Pt.upE, hu]), show Pt.upV x.2.1[0] b = q from by simp [Pt.upV, hu]]
      have : Ev.upTail x b [] x.2.1 = Ev.upTail x b [q] (x.2.1.drop 1) := by
       have := Ev.upTail_some x b [] (x.2.1.drop 1) _ q hu
       rw [← e0] at this; exact this
      rw [this]
      obtain ⟨d, hd⟩ : ∃ d, x.2.1.length = d + 1 := ⟨x.2.1.length - 1, by omega⟩
      rw [hd]
      exact f16_loop kk x b hx hlen.1 d 1 [q] (by omega) (by simp)
   ·have e0 : x.2.1 = [] := List.length_eq_zero_iff.1 (by omega)
    have ho : Ev.okm (x.withP []) = true := hx
    rw [bif_neg (by exact decide_eq_false (by omega)), e0, Ev.upTail_nil]
    rw [show (x.fst, ([] : List Pt), x.snd.snd.fst, x.snd.snd.snd.fst, x.snd.snd.snd.snd.fst, x.snd.snd.snd.snd.snd.fst, x.snd.snd.snd.snd.snd.snd.fst, x.snd.snd.snd.snd.snd.snd.snd.fst, x.snd.snd.snd.snd.snd.snd.snd.snd) = x.withP [] from rfl, bif_pos ho]
    cases hr : (x.withP []).right with
    | false => rw [if_neg (by decide)]; exact ⟨_, canon_zEv 60, rfl⟩
    | true => rw [if_pos rfl]; exact ⟨_, rfl, rfl⟩
end Vm.S6b
open Go Go.Proofs
namespace Vm.S6b
def Ev.okUp (x : Ev) : Bool := Ev.okm x && decide (x.2.2.2.2.2.2.2.1.length * 8 ≤ bytesMost)
noncomputable def f16e : Entry Tryd.prog gls := .two 16 true rEvent true rIv (by intro h; cases h <;> rfl) (by intro h; cases h <;> rfl) (fun (x : Ev) (y : Int × Int) => (Ev.okUp x, evR (Ev.up x y))) fun x y h => by
 obtain ⟨n, v, hv, hn⟩ := f16_run (fun v os => some (v, os)) x y h
 have := contract_run (fn := (fb Tryd.f16).1) (c := (fb Tryd.f16).2) mixed (ready10 8) (glE10 8) Tryd.func16 (by kernel_rfl) rfl rfl (by kernel_rfl) hn
 exact this.canon2 (by intro h; cases h) hv
noncomputable def es11 : List (Entry Tryd.prog gls) := [f16e] ++ es10
noncomputable def E11 (n : Nat) : Env := interp fns (look tys) gls mvs (tabOf es11) 100000 n
theorem ready11 (n : Nat) : Ready Tryd.prog (E11 n) := ready_of mixed fnsAll tysOk rfsOk n
theorem glE11 (n : Nat) : (E11 n).gl = gls := by cases n <;> rfl
end Vm.S6b
