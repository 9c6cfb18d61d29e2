/- Which events are right, and events up, as runs of the value machine. -/
import Derived.Test.YtlbkefgnblajlaaDoorLawA
import Derived.Test.YtlbkefgnblajlaaDoorVmE
import Derived.KernelRfl
import Derived.Test.YtlbkefgnblajlaaDoorWords
set_option maxRecDepth 100000
open Go Go.Proofs Go.IntKind
namespace Vm.S6b
variable {R : Type} (J : List Item → St → Option R) (kk : V → List Ob → Option R)
noncomputable abbrev f30cuts : Cuts := fun _ => none
theorem f30_go (s : List UInt8) :
 vseg (E6 8) f30cuts 0 J (vend (E6 8) 0 (fb Tryd.f30).1.results.toList false kk) 100000 true [.code (fb Tryd.f30).2] (start ([V.str s]) ([])) =
 (bif decide ((↑s.length : Int) ≤ (40 : Int)) then
 (bif U.valid s then
 kk (V.bool !decide ((0 : Int) ≤ U.oddAt s s.length (0 : Nat))) ([])
 else kk (V.bool false) ([]))
 else kk (V.bool false) ([])) := by kernel_rfl
noncomputable abbrev f54cuts : Cuts := look [(4, [0, 5])]
noncomputable abbrev f54t4 : List Item := itemsAt (fb Tryd.f54).2 4
def f54s0 (s : List UInt8) (n1 : Int) : St := { fr := [(0, V.str s), (5, V.int i64 n1)], hp := [], nx := 0 }
theorem f54_go (s : List UInt8) :
 vseg (E6 8) f54cuts 0 J (vend (E6 8) 0 (fb Tryd.f54).1.results.toList false kk) 100000 true [.code (fb Tryd.f54).2] (start ([V.str s, V.int i64 (40 : Int)]) ([])) =
 (bif decide ((40 : Int) < (↑s.length : Int)) then
 kk (V.bool false) ([])
 else J f54t4 (f54s0 s (0 : Int))) := by kernel_rfl
theorem f54_0 (s : List UInt8) (n1 : Int) :
 vseg (E6 8) f54cuts 0 J (vend (E6 8) 0 (fb Tryd.f54).1.results.toList false kk) 100000 true f54t4 (f54s0 s n1) =
 (bif decide (n1 < (↑s.length : Int)) then
 (bif decide ((0 : Int) ≤ n1 ∧ n1 ≤ (↑s.length : Int) ∧ (↑s.length : Int) ≤ (↑s.length : Int) ∧ (↑s.length : Int) ≤ (↑s.length : Int)) then
 (bif decide ((↑(U.rune (List.take ((↑s.length : Int).toNat - n1.toNat) (List.drop n1.toNat s))) : Int) = (0 : Int)) then
 kk (V.bool false) ([])
 else (match idx s n1 with
 | some y2 => (bif decide ((↑y2.toNat : Int) < (32 : Int)) then
 kk (V.bool false) ([])
 else (match idx s n1 with
 | some y3 => (bif decide ((↑y3.toNat : Int) = (127 : Int)) then
 kk (V.bool false) ([])
 else J f54t4 (f54s0 s (i64.wrap (n1 + (↑(U.rune (List.take ((↑s.length : Int).toNat - n1.toNat) (List.drop n1.toNat s))) : Int)))))
 | none => none))
 | none => none))
 else none)
 else kk (V.bool true) ([])) := by kernel_rfl
noncomputable abbrev f31cuts : Cuts := look [(2, [0, 5, 6, 7])]
noncomputable abbrev f31t2 : List Item := itemsAt (fb Tryd.f31).2 2
def f31s0 (s : List Int) (n1 : Int) : St := { fr := [(0, V.sl rI s), (5, V.sl rI s), (6, V.int i64 (↑s.length : Int)), (7, V.int i64 n1)], hp := [], nx := 0 }
theorem f31_go (s : List Int) :
 vseg (E6 8) f31cuts 0 J (vend (E6 8) 0 (fb Tryd.f31).1.results.toList false kk) 100000 true [.code (fb Tryd.f31).2] (start ([V.sl rI s]) ([])) =
 J f31t2 (f31s0 s (0 : Int)) := by kernel_rfl
theorem f31_0 (s : List Int) (n1 : Int) :
 vseg (E6 8) f31cuts 0 J (vend (E6 8) 0 (fb Tryd.f31).1.results.toList false kk) 100000 true f31t2 (f31s0 s n1) =
 (bif decide (n1 < (↑s.length : Int)) then
 (match idx s n1 with
 | some y2 => (bif decide (y2 < (1 : Int)) then
 kk (V.bool false) ([])
 else (bif decide ((4 : Int) < y2) then
 kk (V.bool false) ([])
 else J f31t2 (f31s0 s (i64.wrap (n1 + (1 : Int))))))
 | none => none)
 else (bif decide (s.length < (4611686018427387904 : Nat)) then
 kk (V.bool (risesI s)) ([])
 else none)) := by kernel_rfl
noncomputable abbrev f35cuts : Cuts := look [(2, [0, 1, 7, 8])]
noncomputable abbrev f35t2 : List Item := itemsAt (fb Tryd.f35).2 2
def f35s0 (s : List Pt) (n1 : Int) : St := { fr := [(0, V.sl rPitch s), (1, V.fn 36 [] []), (7, V.int i64 (↑s.length : Int)), (8, V.int i64 n1)], hp := [], nx := 0 }
theorem f35_go (s : List Pt) :
 vseg (E6 8) f35cuts 0 J (vend (E6 8) 0 (fb Tryd.f35).1.results.toList false kk) 100000 true [.code (fb Tryd.f35).2] (start ([V.sl rPitch s, V.fn (36 : Nat) [] []]) ([])) =
 J f35t2 (f35s0 s (0 : Int)) := by kernel_rfl
theorem f35_0 (s : List Pt) (n1 : Int) :
 vseg (E6 8) f35cuts 0 J (vend (E6 8) 0 (fb Tryd.f35).1.results.toList false kk) 100000 true f35t2 (f35s0 s n1) =
 (bif decide (n1 < (↑s.length : Int)) then
 (bif decide ((0 : Int) < n1) then
 (match idx s n1 with
 | some y2 => (match idx s (i64.wrap (n1 - (1 : Int))) with
 | some y3 => (bif !decide ((0 : Int) < Pt.cmp y2 y3) then
 kk (V.bool false) ([])
 else J f35t2 (f35s0 s (i64.wrap (n1 + (1 : Int)))))
 | none => none)
 | none => none)
 else J f35t2 (f35s0 s (i64.wrap (n1 + (1 : Int)))))
 else kk (V.bool true) ([])) := by kernel_rfl
end Vm.S6b
open Go Go.Proofs
namespace Vm.S6b
theorem f30_run {R : Type} (kk : V → List Ob → Option R) (s : List UInt8) :
  vrun (E6 8) f30cuts 0 100000 (vend (E6 8) 0 (fb Tryd.f30).1.results.toList false kk) 1 [.code (fb Tryd.f30).2] (start [.str s] []) = kk (.bool (plain s)) [] := by
 rw [vrun_succ, f30_go]
 unfold plain
 by_cases h : s.length ≤ 40
 ·rw [bif_pos (by exact decide_eq_true (by omega)), decide_eq_true h, Bool.true_and]
  cases hv : U.valid s with
  | false => rfl
  | true =>
    have := U.oddAt_calm s s.length 0 (by omega) (by omega) hv
    rw [List.drop_zero] at this
    rw [cond_true, this, Bool.not_not, Bool.true_and]
 ·rw [bif_neg (by exact decide_eq_false (by omega)), decide_eq_false h, Bool.false_and]
theorem f54_loop {R : Type} (kk : V → List Ob → Option R) (s : List UInt8) (hb : s.length < 4611686018427387904) : ∀ (d i : Nat), i ≤ s.length → s.length ≤ i + d →
  vrun (E6 8) f54cuts 0 100000 (vend (E6 8) 0 (fb Tryd.f54).1.results.toList false kk) (d + 1) f54t4 (f54s0 s i) = kk (.bool (U.valid (s.drop i) && U.calm (s.drop i))) [] := by
 intro d
 induction d with
 | zero =>
   intro i hi hd
   rw [vrun_succ, f54_0, bif_neg (by exact decide_eq_false (by omega)), List.drop_eq_nil_of_le (by omega), U.valid_nil]; rfl
 | succ d ih =>
   intro i hi hd
   rw [vrun_succ, f54_0]
   by_cases hlt : i < s.length
   ·rw [bif_pos (by exact decide_eq_true (by omega)), bif_pos (by exact decide_eq_true (by omega)), td s i i rfl, idx_nat, List.getElem?_eq_getElem hlt]
    dsimp only
    have hne : s.drop i ≠ [] := by
     intro e
     have := congrArg List.length e
     simp only [List.length_drop, List.length_nil] at this; omega
    have hle := U.rune_le (s.drop i)
    rw [List.length_drop] at hle
    by_cases h0 : U.rune (s.drop i) = 0
    ·rw [bif_pos (by exact decide_eq_true (by omega)), U.valid_bad hne h0]; rfl
    ·rw [bif_neg (by exact decide_eq_false (by omega)), U.valid_step hne h0, List.drop_drop]
     have hc : U.calm (s.drop i) = (decide (32 ≤ U.by s[i] ∧ U.by s[i] ≠ 127) && U.calm (s.drop (i + 1))) := by
      rw [List.drop_eq_getElem_cons hlt]; rfl
     by_cases h1 : (s[i].toNat : Int) < 32
     ·rw [bif_pos (decide_eq_true h1), hc, show decide (32 ≤ U.by s[i] ∧ U.by s[i] ≠ 127) = false from decide_eq_false (by simp only [U.by]; omega)]; simp
     ·rw [bif_neg (decide_eq_false h1)]
      by_cases h2 : (s[i].toNat : Int) = 127
      ·rw [bif_pos (decide_eq_true h2), hc, show decide (32 ≤ U.by s[i] ∧ U.by s[i] ≠ 127) = false from decide_eq_false (by simp only [U.by]; omega)]; simp
      ·rw [bif_neg (decide_eq_false h2), w64 (by omega) (by omega)]
       have e := ih (i + U.rune (s.drop i)) (by omega) (by omega)
       rw [show ((i + U.rune (s.drop i) : Nat) : Int) = (i : Int) + (U.rune (s.drop i) : Int) from by omega] at e
       rw [e]
       have hd2 := (dec_rune (s.drop i) h0).2
       have hcs := U.calm_split (s.drop i) (U.rune (s.drop i))
       rw [List.drop_drop] at hcs
       have : U.calm ((s.drop i).take (U.rune (s.drop i))) = true := by
        cases hx : U.calm ((s.drop i).take (U.rune (s.drop i))) with
        | true => rfl
        | false =>
          exfalso
          have := (dec_rune (s.drop i) h0).1
          rw [hx] at hd2
          rw [List.drop_eq_getElem_cons hlt] at hx hd2
          exact one_odd _ _ (by rw [List.drop_eq_getElem_cons hlt] at h0; exact h0) hx (by simp only [U.by]; omega) (by simp only [U.by]; omega)
       rw [hcs, this, Bool.true_and]
   ·rw [bif_neg (by exact decide_eq_false (by omega)), List.drop_eq_nil_of_le (by omega), U.valid_nil]; rfl
theorem f54_run {R : Type} (kk : V → List Ob → Option R) (s : List UInt8) :
  ∃ n, vrun (E6 8) f54cuts 0 100000 (vend (E6 8) 0 (fb Tryd.f54).1.results.toList false kk) n [.code (fb Tryd.f54).2] (start [.str s, .int .i64 40] []) = kk (.bool (plain s)) [] := by
 refine ⟨s.length + 1 + 1, ?_⟩
 rw [vrun_succ, f54_go]
 unfold plain
 by_cases h : s.length ≤ 40
 ·rw [bif_neg (by exact decide_eq_false (by omega)), decide_eq_true h, Bool.true_and]
  exact f54_loop kk s (by omega) s.length 0 (by omega) (by omega)
 ·rw [bif_pos (by exact decide_eq_true (by omega)), decide_eq_false h, Bool.false_and]
theorem f31_loop {R : Type} (kk : V → List Ob → Option R) (l : List Int) (hb : l.length < 4611686018427387904) : ∀ (d i : Nat), i + d = l.length →
  vrun (E6 8) f31cuts 0 100000 (vend (E6 8) 0 (fb Tryd.f31).1.results.toList false kk) (d + 1) f31t2 (f31s0 l i) = kk (.bool ((l.drop i).all (fun m => decide (1 ≤ m ∧ m ≤ 4)) && risesI l)) [] := by
 intro d
 induction d with
 | zero =>
   intro i hi
   rw [vrun_succ, f31_0, bif_neg (by exact decide_eq_false (by omega)), bif_pos (decide_eq_true hb), List.drop_eq_nil_of_le (by omega)]; rfl
 | succ d ih =>
   intro i hi
   have hlt : i < l.length := by omega
   rw [vrun_succ, f31_0, bif_pos (by exact decide_eq_true (by omega)), wrap_succ (by omega), ih (i + 1) (by omega), idx_nat, List.getElem?_eq_getElem hlt]
   dsimp only
   rw [List.drop_eq_getElem_cons hlt, List.all_cons]
   by_cases h1 : l[i] < 1
   ·rw [bif_pos (decide_eq_true h1), show decide (1 ≤ l[i] ∧ l[i] ≤ 4) = false from decide_eq_false (by omega)]; rfl
   ·rw [bif_neg (decide_eq_false h1)]
    by_cases h4 : 4 < l[i]
    ·rw [bif_pos (decide_eq_true h4), show decide (1 ≤ l[i] ∧ l[i] ≤ 4) = false from decide_eq_false (by omega)]; rfl
    ·rw [bif_neg (decide_eq_false h4), show decide (1 ≤ l[i] ∧ l[i] ≤ 4) = true from decide_eq_true (by omega), Bool.true_and]
theorem f31_run {R : Type} (kk : V → List Ob → Option R) (l : List Int) (hb : l.length < 4611686018427387904) :
  ∃ n, vrun (E6 8) f31cuts 0 100000 (vend (E6 8) 0 (fb Tryd.f31).1.results.toList false kk) n [.code (fb Tryd.f31).2] (start [enc false srI' l] []) = kk (.bool (marked l)) [] := by
 refine ⟨l.length + 1 + 1, ?_⟩
 rw [vrun_succ]
 refine (f31_go _ kk l).trans ?_
 exact f31_loop kk l hb l.length 0 (by omega)
theorem f35_loop {R : Type} (kk : V → List Ob → Option R) (l : List Pt) (hb : l.length < 4611686018427387904) : ∀ (d i : Nat), i + d = l.length →
  vrun (E6 8) f35cuts 0 100000 (vend (E6 8) 0 (fb Tryd.f35).1.results.toList false kk) (d + 1) f35t2 (f35s0 l i) = kk (.bool (risesP (l.drop (i - 1)))) [] := by
 intro d
 induction d with
 | zero =>
   intro i hi
   rw [vrun_succ, f35_0, bif_neg (by exact decide_eq_false (by omega)), risesP_short (by rw [List.length_drop]; omega)]
 | succ d ih =>
   intro i hi
   have hlt : i < l.length := by omega
   rw [vrun_succ, f35_0, bif_pos (by exact decide_eq_true (by omega)), wrap_succ (by omega), ih (i + 1) (by omega)]
   match i, hi, hlt with
   | 0, hi, hlt => rw [bif_neg (by exact decide_eq_false (by omega))]
   | i + 1, hi, hlt =>
     rw [bif_pos (by exact decide_eq_true (by omega)), w64 (n := ((i + 1 : Nat) : Int) - 1) (by omega) (by omega), idx_nat, idx_get l _ i (by omega), List.getElem?_eq_getElem hlt, List.getElem?_eq_getElem (by omega : i < l.length)]
     dsimp only
     rw [show i + 1 - 1 = i from rfl, show i + 1 + 1 - 1 = i + 1 from rfl, risesP_drop l i hlt]
     by_cases h : Pt.cmp l[i + 1] l[i] > 0
     ·rw [bif_neg (by rw [show decide (0 < Pt.cmp l[i + 1] l[i]) = true from decide_eq_true h]; rfl), decide_eq_true h, Bool.true_and]
     ·rw [bif_pos (by rw [show decide (0 < Pt.cmp l[i + 1] l[i]) = false from decide_eq_false h]; rfl), decide_eq_false h, Bool.false_and]
theorem f35_run {R : Type} (kk : V → List Ob → Option R) (l : List Pt) (hb : l.length < 4611686018427387904) :
  ∃ n, vrun (E6 8) f35cuts 0 100000 (vend (E6 8) 0 (fb Tryd.f35).1.results.toList false kk) n [.code (fb Tryd.f35).2] (start [enc false (.cons (.sl rPitch) .nil) l, .fn 36 [] []] []) = kk (.bool (risesP l)) [] := by
 refine ⟨l.length + 1 + 1, ?_⟩
 rw [vrun_succ]
 refine (f35_go _ kk l).trans ?_
 exact f35_loop kk l hb l.length 0 (by omega)
end Vm.S6b
open Go Go.Proofs
namespace Vm.S6b
noncomputable def f30e : Entry Tryd.prog gls := .one 30 false rS (by intro h; cases h <;> rfl) (fun (x : List UInt8) => (true, .bool (plain x))) fun x h => by
 have _ := h
 have hn := f30_run (fun v os => some (v, os)) x
 exact contract_run (fn := (fb Tryd.f30).1) (c := (fb Tryd.f30).2) mixed (ready6 8) (glE6 8) Tryd.func30 (by kernel_rfl) rfl rfl (by kernel_rfl) hn
noncomputable def f54e : Entry Tryd.prog gls := .two 54 false rS false rI (by intro h; cases h <;> rfl) (by intro h; cases h <;> rfl) (fun (x : List UInt8) (y : Int) => (isInt y 40, .bool (plain x))) fun x y h => by
 have h : y = (40 : Int) := isInt_eq h
 subst h
 obtain ⟨n, hn⟩ := f54_run (fun v os => some (v, os)) x
 exact contract_run (fn := (fb Tryd.f54).1) (c := (fb Tryd.f54).2) mixed (ready6 8) (glE6 8) Tryd.func54 (by kernel_rfl) rfl rfl (by kernel_rfl) hn
abbrev srP' : Ks := .cons (.sl rPitch) .nil
noncomputable def f31e : Entry Tryd.prog gls := .one 31 false srI' (by intro h; cases h <;> rfl) (fun (x : List Int) => (decide (x.length < 4611686018427387904), .bool (marked x))) fun x h => by
 have _ := h
 obtain ⟨n, hn⟩ := f31_run (fun v os => some (v, os)) x (of_decide_eq_true h)
 exact contract_run (fn := (fb Tryd.f31).1) (c := (fb Tryd.f31).2) mixed (ready6 8) (glE6 8) Tryd.func31 (by kernel_rfl) rfl rfl (by kernel_rfl) hn
noncomputable def f35e : Entry Tryd.prog gls := .oneF 35 false srP' (by intro h; cases h <;> rfl) 36 (fun (x : List Pt) => (decide (x.length < 4611686018427387904), .bool (risesP x))) fun x h => by
 have _ := h
 obtain ⟨n, hn⟩ := f35_run (fun v os => some (v, os)) x (of_decide_eq_true h)
 exact contract_run (fn := (fb Tryd.f35).1) (c := (fb Tryd.f35).2) mixed (ready6 8) (glE6 8) Tryd.func35 (by kernel_rfl) rfl rfl (by kernel_rfl) hn
noncomputable def es7 : List (Entry Tryd.prog gls) := [f30e, f54e, f31e, f35e] ++ es6
noncomputable def E7 (n : Nat) : Env := interp fns (look tys) gls mvs (tabOf es7) 100000 n
theorem ready7 (n : Nat) : Ready Tryd.prog (E7 n) := ready_of mixed fnsAll tysOk rfsOk n
theorem glE7 (n : Nat) : (E7 n).gl = gls := by cases n <;> rfl
end Vm.S6b
open Go Go.Proofs Go.IntKind
namespace Vm.S6b
variable {R : Type} (J : List Item → St → Option R) (kk : V → List Ob → Option R)
noncomputable abbrev f14cuts : Cuts := look [(3, [1]), (5, [1]), (8, [1, 64, 65, 66])]
noncomputable abbrev f14t8 : List Item := itemsAt (fb Tryd.f14).2 8
noncomputable abbrev f14t5 : List Item := itemsAt (fb Tryd.f14).2 5
noncomputable abbrev f14t3 : List Item := itemsAt (fb Tryd.f14).2 3
def f14s0 (x1 : Ev) : St := { fr := [(1, V.ref 0 0 0 0)], hp := [(0, Ob.var [V.int i64 x1.fst, V.sl rPitch x1.snd.fst, V.sl rB x1.snd.snd.fst, V.int i64 x1.snd.snd.snd.fst, V.int i64 x1.snd.snd.snd.snd.fst, V.int i64 x1.snd.snd.snd.snd.snd.fst, V.int i64 x1.snd.snd.snd.snd.snd.snd.fst, V.sl rI x1.snd.snd.snd.snd.snd.snd.snd.fst, V.str x1.snd.snd.snd.snd.snd.snd.snd.snd])], nx := 1 }
def f14s1 (x2 : Ev) : St := { fr := [(1, V.ref 0 0 0 0)], hp := [(0, Ob.var [V.int i64 x2.fst, V.sl rPitch x2.snd.fst, V.sl rB x2.snd.snd.fst, V.int i64 x2.snd.snd.snd.fst, V.int i64 x2.snd.snd.snd.snd.fst, V.int i64 x2.snd.snd.snd.snd.snd.fst, V.int i64 x2.snd.snd.snd.snd.snd.snd.fst, V.sl rI x2.snd.snd.snd.snd.snd.snd.snd.fst, V.str x2.snd.snd.snd.snd.snd.snd.snd.snd])], nx := 1 }
def f14s2 (x2 : Ev) (n3 : Int) (x4 : Ev) : St := { fr := [(1, V.ref 0 0 0 0), (64, V.sl rPitch x2.snd.fst), (65, V.int i64 (↑x2.snd.fst.length : Int)), (66, V.int i64 n3)], hp := [(0, Ob.var [V.int i64 x4.fst, V.sl rPitch x4.snd.fst, V.sl rB x4.snd.snd.fst, V.int i64 x4.snd.snd.snd.fst, V.int i64 x4.snd.snd.snd.snd.fst, V.int i64 x4.snd.snd.snd.snd.snd.fst, V.int i64 x4.snd.snd.snd.snd.snd.snd.fst, V.sl rI x4.snd.snd.snd.snd.snd.snd.snd.fst, V.str x4.snd.snd.snd.snd.snd.snd.snd.snd])], nx := 1 }
theorem f14_go (x : Ev) :
 vseg (E7 8) f14cuts 0 J (vend (E7 8) 0 (fb Tryd.f14).1.results.toList false kk) 100000 true [.code (fb Tryd.f14).2] (start ([enc true rEvent x]) ([])) =
 (bif !Vl.right (x.snd.snd.snd.fst, x.snd.snd.snd.snd.fst, x.snd.snd.snd.snd.snd.fst, x.snd.snd.snd.snd.snd.snd.fst) then
 kk (V.bool false) ([])
 else (bif !plain x.snd.snd.snd.snd.snd.snd.snd.snd then
 kk (V.bool false) ([])
 else (bif decide (List.length x.snd.snd.snd.snd.snd.snd.snd.fst < (4611686018427387904 : Nat)) then
 (bif !marked x.snd.snd.snd.snd.snd.snd.snd.fst then
 kk (V.bool false) ([])
 else (bif !decide ((↑(List.length x.snd.snd.fst) : Int) = (↑(List.length x.snd.fst) : Int)) then
 kk (V.bool false) ([])
 else J f14t3 (f14s0 x)))
 else none))) := by kernel_rfl
theorem f14_0 (x1 : Ev) :
 vseg (E7 8) f14cuts 0 J (vend (E7 8) 0 (fb Tryd.f14).1.results.toList false kk) 100000 true f14t3 (f14s0 x1) =
 (bif decide (x1.fst = (0 : Int)) then
 (bif decide ((↑x1.snd.fst.length : Int) = (0 : Int)) then
 (bif x1.snd.snd.snd.snd.snd.snd.snd.snd == ([] : List UInt8) then
 (bif decide (x1.snd.snd.snd.snd.snd.snd.snd.fst.length < (4611686018427387904 : Nat)) then
 kk (V.bool !decide ((0 : Int) ≤ notFour x1.snd.snd.snd.snd.snd.snd.snd.fst (0 : Nat))) ([])
 else none)
 else kk (V.bool false) ([]))
 else kk (V.bool false) ([]))
 else J f14t5 (f14s1 x1)) := by kernel_rfl
theorem f14_1 (x2 : Ev) :
 vseg (E7 8) f14cuts 0 J (vend (E7 8) 0 (fb Tryd.f14).1.results.toList false kk) 100000 true f14t5 (f14s1 x2) =
 (bif !decide (x2.fst = (1 : Int)) then
 kk (V.bool false) ([])
 else (bif decide ((↑x2.snd.fst.length : Int) < (1 : Int)) then
 kk (V.bool false) ([])
 else (bif decide ((8 : Int) < (↑x2.snd.fst.length : Int)) then
 kk (V.bool false) ([])
 else J f14t8 (f14s2 x2 (0 : Int) x2)))) := by kernel_rfl
theorem f14_2 (x2 : Ev) (n3 : Int) (x4 : Ev) :
 vseg (E7 8) f14cuts 0 J (vend (E7 8) 0 (fb Tryd.f14).1.results.toList false kk) 100000 true f14t8 (f14s2 x2 n3 x4) =
 (bif decide (n3 < (↑x2.snd.fst.length : Int)) then
 (match idx x2.snd.fst n3 with
 | some y5 => (bif !Pt.right y5 then
 kk (V.bool false) ([])
 else J f14t8 (f14s2 x2 (i64.wrap (n3 + (1 : Int))) x4))
 | none => none)
 else (bif decide (x4.snd.fst.length < (4611686018427387904 : Nat)) then
 kk (V.bool (risesP x4.snd.fst)) ([])
 else none)) := by kernel_rfl
noncomputable abbrev f26cuts : Cuts := look [(8, [1, 3])]
noncomputable abbrev f26t8 : List Item := itemsAt (fb Tryd.f26).2 8
def f26s0 (n2 : Int) (x3 : Ev) : St := { fr := [(1, V.ref 0 0 0 0), (3, V.int i64 n2)], hp := [(0, Ob.var [V.int i64 x3.fst, V.sl rPitch x3.snd.fst, V.sl rB x3.snd.snd.fst, V.int i64 x3.snd.snd.snd.fst, V.int i64 x3.snd.snd.snd.snd.fst, V.int i64 x3.snd.snd.snd.snd.snd.fst, V.int i64 x3.snd.snd.snd.snd.snd.snd.fst, V.sl rI x3.snd.snd.snd.snd.snd.snd.snd.fst, V.str x3.snd.snd.snd.snd.snd.snd.snd.snd])], nx := 1 }
theorem f26_go (x : Ev) :
 vseg (E7 8) f26cuts 0 J (vend (E7 8) 0 (fb Tryd.f26).1.results.toList false kk) 100000 true [.code (fb Tryd.f26).2] (start ([enc true rEvent x]) ([])) =
 (bif !Vl.right (x.snd.snd.snd.fst, x.snd.snd.snd.snd.fst, x.snd.snd.snd.snd.snd.fst, x.snd.snd.snd.snd.snd.snd.fst) then
 kk (V.bool false) ([])
 else (bif !plain x.snd.snd.snd.snd.snd.snd.snd.snd then
 kk (V.bool false) ([])
 else (bif decide (List.length x.snd.snd.snd.snd.snd.snd.snd.fst < (4611686018427387904 : Nat)) then
 (bif !marked x.snd.snd.snd.snd.snd.snd.snd.fst then
 kk (V.bool false) ([])
 else (bif !decide ((↑(List.length x.snd.snd.fst) : Int) = (↑(List.length x.snd.fst) : Int)) then
 kk (V.bool false) ([])
 else (bif decide (x.fst = (0 : Int)) then
 (bif decide ((↑(List.length x.snd.fst) : Int) = (0 : Int)) then
 (bif decide ((↑(List.length x.snd.snd.snd.snd.snd.snd.snd.snd) : Int) = (0 : Int)) then
 (bif decide ((↑(List.length x.snd.snd.snd.snd.snd.snd.snd.fst) : Int) = (0 : Int)) then
 kk (V.bool true) ([])
 else (match idx x.snd.snd.snd.snd.snd.snd.snd.fst (0 : Int) with
 | some y1 => kk (V.bool (decide (y1 = (4 : Int)))) ([])
 | none => none))
 else kk (V.bool false) ([]))
 else kk (V.bool false) ([]))
 else (bif !decide (x.fst = (1 : Int)) then
 kk (V.bool false) ([])
 else (bif decide ((↑(List.length x.snd.fst) : Int) = (0 : Int)) then
 kk (V.bool false) ([])
 else (bif decide ((8 : Int) < (↑(List.length x.snd.fst) : Int)) then
 kk (V.bool false) ([])
 else J f26t8 (f26s0 (0 : Int) x)))))))
 else none))) := by kernel_rfl
theorem f26_0 (n2 : Int) (x3 : Ev) :
 vseg (E7 8) f26cuts 0 J (vend (E7 8) 0 (fb Tryd.f26).1.results.toList false kk) 100000 true f26t8 (f26s0 n2 x3) =
 (bif decide (n2 < (↑x3.snd.fst.length : Int)) then
 (match idx x3.snd.fst n2 with
 | some y4 => (bif !Pt.right y4 then
 kk (V.bool false) ([])
 else (bif decide ((0 : Int) < n2) then
 (match idx x3.snd.fst n2 with
 | some y5 => (match idx x3.snd.fst (i64.wrap (n2 - (1 : Int))) with
 | some y6 => (bif decide (Pt.cmp y5 y6 ≤ (0 : Int)) then
 kk (V.bool false) ([])
 else J f26t8 (f26s0 (i64.wrap (n2 + (1 : Int))) x3))
 | none => none)
 | none => none)
 else J f26t8 (f26s0 (i64.wrap (n2 + (1 : Int))) x3)))
 | none => none)
 else kk (V.bool true) ([])) := by kernel_rfl
end Vm.S6b
open Go Go.Proofs
namespace Vm.S6b
theorem f14_loop {R : Type} (kk : V → List Ob → Option R) (x y : Ev) (hb : x.2.1.length < 4611686018427387904) (hy : y.2.1.length < 4611686018427387904) : ∀ (d i : Nat), i + d = x.2.1.length →
  vrun (E7 8) f14cuts 0 100000 (vend (E7 8) 0 (fb Tryd.f14).1.results.toList false kk) (d + 1) f14t8 (f14s2 x i y) = kk (.bool ((x.2.1.drop i).all Pt.right && risesP y.2.1)) [] := by
 intro d
 induction d with
 | zero =>
   intro i hi
   rw [vrun_succ, f14_2, bif_neg (by exact decide_eq_false (by omega)), bif_pos (decide_eq_true hy), List.drop_eq_nil_of_le (by omega)]; rfl
 | succ d ih =>
   intro i hi
   have hlt : i < x.2.1.length := by omega
   rw [vrun_succ, f14_2, bif_pos (by exact decide_eq_true (by omega)), wrap_succ (by omega), ih (i + 1) (by omega), idx_nat, List.getElem?_eq_getElem hlt]
   dsimp only
   rw [List.drop_eq_getElem_cons hlt, List.all_cons]
   cases Pt.right x.2.1[i] <;> rfl
theorem cond_not_kb {R : Type} (kk : V → List Ob → Option R) (c : Bool) (X : Option R) (b : Bool) (h : c = true → X = kk (.bool b) []) : (bif !c then kk (.bool false) [] else X) = kk (.bool (c && b)) [] := by
 cases c with
 | false => rfl
 | true => exact h rfl
theorem f14_run {R : Type} (kk : V → List Ob → Option R) (x : Ev) (hm : Ev.okm x = true) :
  ∃ n, vrun (E7 8) f14cuts 0 100000 (vend (E7 8) 0 (fb Tryd.f14).1.results.toList false kk) n [.code (fb Tryd.f14).2] (start [enc true rEvent x] []) = kk (.bool (Ev.right x)) [] := by
 refine ⟨x.2.1.length + 1 + 1 + 1 + 1, ?_⟩
 rw [vrun_succ, f14_go, Ev.right_eq]
 refine cond_not_kb kk _ _ _ fun h1 => cond_not_kb kk _ _ _ fun h2 => ?_
 have hm' : decide (x.snd.snd.snd.snd.snd.snd.snd.fst.length < 4611686018427387904) = true := hm
 rw [bif_pos hm']
 refine cond_not_kb kk _ _ _ fun h3 => ?_
 rw [show decide ((x.snd.snd.fst.length : Int) = (x.snd.fst.length : Int)) = decide (x.ties.length = x.pitches.length) from decide_eq_decide.2 ⟨fun h => Int.ofNat_inj.1 h, fun h => congrArg Int.ofNat h⟩]
 refine cond_not_kb kk _ _ _ fun h4 => ?_
 rw [vrun_succ, f14_0]
 unfold Ev.shape
 by_cases hk : x.1 = 0
 ·rw [bif_pos (decide_eq_true hk), if_pos (show x.kind = 0 from hk)]
  by_cases hp : x.2.1.length = 0
  ·rw [bif_pos (by exact decide_eq_true (by omega)), show decide (x.pitches.length = 0) = true from decide_eq_true hp, Bool.true_and]
   by_cases hw : x.2.2.2.2.2.2.2.2 = []
   ·rw [show decide (x.word = []) = true from decide_eq_true hw, hw, bif_pos (by rfl), bif_pos hm', notFour_neg, Bool.not_not, Bool.true_and]; rfl
   ·rw [show decide (x.word = []) = false from decide_eq_false hw, bif_neg (by simpa using hw)]; rfl
  ·rw [bif_neg (by exact decide_eq_false (by omega)), show decide (x.pitches.length = 0) = false from decide_eq_false hp]; rfl
 ·rw [bif_neg (decide_eq_false hk), if_neg (show ¬ x.kind = 0 from hk), vrun_succ, f14_1]
  refine cond_not_kb kk _ _ _ fun h5 => ?_
  by_cases p1 : x.2.1.length < 1
  ·rw [bif_pos (by exact decide_eq_true (by omega)), show decide (1 ≤ x.pitches.length) = false from decide_eq_false (by simp only [Ev.pitches]; omega)]; rfl
  ·rw [bif_neg (by exact decide_eq_false (by omega)), show decide (1 ≤ x.pitches.length) = true from decide_eq_true (by simp only [Ev.pitches]; omega), Bool.true_and]
   by_cases p8 : 8 < x.2.1.length
   ·rw [bif_pos (by exact decide_eq_true (by omega)), show decide (x.pitches.length ≤ 8) = false from decide_eq_false (by simp only [Ev.pitches]; omega)]; rfl
   ·rw [bif_neg (by exact decide_eq_false (by omega)), show decide (x.pitches.length ≤ 8) = true from decide_eq_true (by simp only [Ev.pitches]; omega), Bool.true_and]
    exact f14_loop kk x x (by omega) (by omega) x.2.1.length 0 (by omega)
theorem f26_loop {R : Type} (kk : V → List Ob → Option R) (x : Ev) (hb : x.2.1.length < 4611686018427387904) : ∀ (d i : Nat), i + d = x.2.1.length →
  vrun (E7 8) f26cuts 0 100000 (vend (E7 8) 0 (fb Tryd.f26).1.results.toList false kk) (d + 1) f26t8 (f26s0 i x) = kk (.bool ((x.2.1.drop i).all Pt.right && risesP (x.2.1.drop (i - 1)))) [] := by
 intro d
 induction d with
 | zero =>
   intro i hi
   rw [vrun_succ, f26_0, bif_neg (by exact decide_eq_false (by omega)), risesP_short (by rw [List.length_drop]; omega), List.drop_eq_nil_of_le (by omega)]; rfl
 | succ d ih =>
   intro i hi
   have hlt : i < x.2.1.length := by omega
   rw [vrun_succ, f26_0, bif_pos (by exact decide_eq_true (by omega)), wrap_succ (by omega), ih (i + 1) (by omega), idx_nat, List.getElem?_eq_getElem hlt]
   dsimp only
   have ea : (x.2.1.drop i).all Pt.right = (Pt.right x.2.1[i] && (x.2.1.drop (i + 1)).all Pt.right) := by rw [List.drop_eq_getElem_cons hlt, List.all_cons]
   rw [ea]
   cases hr : Pt.right x.2.1[i] with
   | false => rfl
   | true =>
     rw [bif_neg (by rfl), Bool.true_and]
     match i, hi, hlt with
     | 0, hi, hlt => rw [bif_neg (by exact decide_eq_false (by omega))]
     | i + 1, hi, hlt =>
       rw [bif_pos (by exact decide_eq_true (by omega)), w64 (n := ((i + 1 : Nat) : Int) - 1) (by omega) (by omega), idx_get _ _ i (by omega), List.getElem?_eq_getElem (by omega : i < x.2.1.length)]
       dsimp only
       rw [show i + 1 - 1 = i from rfl, show i + 1 + 1 - 1 = i + 1 from rfl, risesP_drop x.2.1 i hlt]
       by_cases h : Pt.cmp x.2.1[i + 1] x.2.1[i] > 0
       ·rw [bif_neg (by exact decide_eq_false (by omega)), decide_eq_true h, Bool.true_and]
       ·rw [bif_pos (by exact decide_eq_true (by omega)), decide_eq_false h, Bool.false_and, Bool.and_false]
theorem f26_run {R : Type} (kk : V → List Ob → Option R) (x : Ev) (hm : Ev.okm x = true) :
  ∃ n, vrun (E7 8) f26cuts 0 100000 (vend (E7 8) 0 (fb Tryd.f26).1.results.toList false kk) n [.code (fb Tryd.f26).2] (start [enc true rEvent x] []) = kk (.bool (Ev.right x)) [] := by
 refine ⟨x.2.1.length + 1 + 1, ?_⟩
 rw [vrun_succ, f26_go, Ev.right_eq]
 refine cond_not_kb kk _ _ _ fun h1 => cond_not_kb kk _ _ _ fun h2 => ?_
 have hm' : decide (x.snd.snd.snd.snd.snd.snd.snd.fst.length < 4611686018427387904) = true := hm
 rw [bif_pos hm']
 refine cond_not_kb kk _ _ _ fun h3 => ?_
 rw [show decide ((x.snd.snd.fst.length : Int) = (x.snd.fst.length : Int)) = decide (x.ties.length = x.pitches.length) from decide_eq_decide.2 ⟨fun h => Int.ofNat_inj.1 h, fun h => congrArg Int.ofNat h⟩]
 refine cond_not_kb kk _ _ _ fun h4 => ?_
 unfold Ev.shape
 by_cases hk : x.1 = 0
 ·rw [bif_pos (decide_eq_true hk), if_pos (show x.kind = 0 from hk)]
  by_cases hp : x.2.1.length = 0
  ·rw [bif_pos (by exact decide_eq_true (by omega)), show decide (x.pitches.length = 0) = true from decide_eq_true hp, Bool.true_and]
   by_cases hw : x.2.2.2.2.2.2.2.2 = []
   ·rw [show decide (x.word = []) = true from decide_eq_true hw, hw, bif_pos (by rfl), Bool.true_and, show (x.marks.all fun m => decide (m = 4)) = firstFour x.2.2.2.2.2.2.2.1 from marked_four h3]
    cases x.2.2.2.2.2.2.2.1 with
    | nil => rfl
    | cons a l => rw [bif_neg (by exact decide_eq_false (by simp only [List.length_cons]; omega))]; rfl
   ·rw [show decide (x.word = []) = false from decide_eq_false hw, bif_neg (by exact decide_eq_false (fun e => hw (List.length_eq_zero_iff.1 (by omega))))]; rfl
  ·rw [bif_neg (by exact decide_eq_false (by omega)), show decide (x.pitches.length = 0) = false from decide_eq_false hp]; rfl
 ·rw [bif_neg (decide_eq_false hk), if_neg (show ¬ x.kind = 0 from hk)]
  refine cond_not_kb kk _ _ _ fun h5 => ?_
  by_cases p1 : x.2.1.length < 1
  ·rw [bif_pos (by exact decide_eq_true (by omega)), show decide (1 ≤ x.pitches.length) = false from decide_eq_false (by simp only [Ev.pitches]; omega)]; rfl
  ·rw [bif_neg (by exact decide_eq_false (by omega)), show decide (1 ≤ x.pitches.length) = true from decide_eq_true (by simp only [Ev.pitches]; omega), Bool.true_and]
   by_cases p8 : 8 < x.2.1.length
   ·rw [bif_pos (by exact decide_eq_true (by omega)), show decide (x.pitches.length ≤ 8) = false from decide_eq_false (by simp only [Ev.pitches]; omega)]; rfl
   ·rw [bif_neg (by exact decide_eq_false (by omega)), show decide (x.pitches.length ≤ 8) = true from decide_eq_true (by simp only [Ev.pitches]; omega), Bool.true_and]
    exact f26_loop kk x (by omega) x.2.1.length 0 (by omega)
noncomputable def f14e : Entry Tryd.prog gls := .one 14 true rEvent (by intro h; cases h <;> rfl) (fun (x : Ev) => (Ev.okm x, .bool (Ev.right x))) fun x h => by
 have _ := h
 obtain ⟨n, hn⟩ := f14_run (fun v os => some (v, os)) x h
 exact contract_run (fn := (fb Tryd.f14).1) (c := (fb Tryd.f14).2) mixed (ready7 8) (glE7 8) Tryd.func14 (by kernel_rfl) rfl rfl (by kernel_rfl) hn
noncomputable def f26e : Entry Tryd.prog gls := .one 26 true rEvent (by intro h; cases h <;> rfl) (fun (x : Ev) => (Ev.okm x, .bool (Ev.right x))) fun x h => by
 have _ := h
 obtain ⟨n, hn⟩ := f26_run (fun v os => some (v, os)) x h
 exact contract_run (fn := (fb Tryd.f26).1) (c := (fb Tryd.f26).2) mixed (ready7 8) (glE7 8) Tryd.func26 (by kernel_rfl) rfl rfl (by kernel_rfl) hn
noncomputable def es8 : List (Entry Tryd.prog gls) := [f14e, f26e] ++ es7
end Vm.S6b
open Go Go.Proofs
namespace Vm.S6b
abbrev rU : Ks := .cons (.int .u64) .nil
def ltB (b : Int) (k : Nat) : Bool := decide (b < k)
structure CommonBelow (k : Nat) : Prop where
 says : ∀ a b : Int, (posB a b && ltB b k) = true → Contract Tryd.prog gls 93 [enc false rU a, enc false rU b] [] (.int .u64 (gcdI a b)) []
noncomputable def es9 : List (Entry Tryd.prog gls) := es8
end Vm.S6b
open Go Go.Proofs
namespace Vm.S6b
noncomputable def es10 : List (Entry Tryd.prog gls) := es9 ++ es3
end Vm.S6b
open Go Go.Proofs
namespace Vm.S6b
abbrev evR (x : Ev × Int) : V := .tuple [enc true rEvent x.1, .int .i64 x.2]
abbrev zEvV : V := V.agg [V.int IntKind.i64 (0 : Int), V.nilsl, V.nilsl, V.int IntKind.i64 (0 : Int), V.int IntKind.i64 (0 : Int), V.int IntKind.i64 (0 : Int), V.int IntKind.i64 (0 : Int), V.nilsl, V.str []]
theorem canon_zEv (e : Int) : canon2 true rEvent (.tuple [zEvV, .int .i64 e]) = some (zEv, .int .i64 e) := by rfl
end Vm.S6b
open Go Go.Proofs
namespace Vm.S6b
noncomputable def es11 : List (Entry Tryd.prog gls) := es10
noncomputable def E11 (n : Nat) : Env := interp fns (look tys) gls mvs (tabOf es11) 100000 n
theorem ready11 (n : Nat) : Ready Tryd.prog (E11 n) := ready_of mixed fnsAll tysOk rfsOk n
theorem glE11 (n : Nat) : (E11 n).gl = gls := by cases n <;> rfl
end Vm.S6b
