/- The statement, as a run of the value machine. -/
import Derived.Test.YtlbkefgnblajlaaDoorLawF
import Derived.Test.YtlbkefgnblajlaaDoorVmE
import Derived.KernelRfl
import Derived.Test.YtlbkefgnblajlaaDoorWords
import Derived.Test.YtlbkefgnblajlaaDoorEnv
import Derived.Lay
import Derived.Test.YtlbkefgnblajlaaDoorRows
set_option maxRecDepth 100000
open Go Go.Proofs Go.IntKind
namespace Vm.S6b
variable {R : Type} (J : List Item → St → Option R) (kk : V → List Ob → Option R)
noncomputable abbrev k3 {Q : Type} (k : V → List Ob → Option Q) := vend (E22 8) 0 (fb Tryd.f3).1.results.toList false k
noncomputable abbrev k4 {Q : Type} (k : V → List Ob → Option Q) := vend (E22 8) 0 (fb Tryd.f4).1.results.toList false k
noncomputable abbrev k5 {Q : Type} (k : V → List Ob → Option Q) := vend (E22 8) 0 (fb Tryd.f5).1.results.toList false k
noncomputable abbrev f6cuts : Cuts := look [(10, [0, 3, 5, 6, 8, 9, 10]), (13, [0, 3, 5, 6, 8, 9, 10, 11]), (22, [3, 5, 6, 8, 9, 12, 13, 14])]
noncomputable abbrev f6t22 : List Item := itemsAt (fb Tryd.f6).2 22
noncomputable abbrev f6t13 : List Item := itemsAt (fb Tryd.f6).2 13
noncomputable abbrev f6t10 : List Item := itemsAt (fb Tryd.f6).2 10
def f6s0 (l : List Ev) (b1 b2 : Bool) (n3 : Int) (x4 : Int × Int × Int) (x5 : Ev) : St := { fr := [(0, V.sl rEvent l), (3, V.ref 0 0 0 0), (5, V.bool true), (6, V.ref 1 0 0 0), (8, V.bool b1), (9, V.bool b2), (10, V.int i64 n3)], hp := [(0, Ob.var [V.int i64 x4.fst, V.int i64 x4.snd.fst, V.int i64 x4.snd.snd]), (1, Ob.var [V.int i64 x5.fst, V.sl rPitch x5.snd.fst, V.sl rB x5.snd.snd.fst, V.int i64 x5.snd.snd.snd.fst, V.int i64 x5.snd.snd.snd.snd.fst, V.int i64 x5.snd.snd.snd.snd.snd.fst, V.int i64 x5.snd.snd.snd.snd.snd.snd.fst, V.sl rI x5.snd.snd.snd.snd.snd.snd.snd.fst, V.str x5.snd.snd.snd.snd.snd.snd.snd.snd])], nx := 2 }
def f6s1 (l : List Ev) (b6 b7 : Bool) (n3 n8 : Int) (x9 : Int × Int × Int) (x10 : Ev) : St := { fr := [(0, V.sl rEvent l), (3, V.ref 0 0 0 0), (5, V.bool true), (6, V.ref 1 0 0 0), (8, V.bool b6), (9, V.bool b7), (10, V.int i64 n3), (11, V.int i64 n8)], hp := [(0, Ob.var [V.int i64 x9.fst, V.int i64 x9.snd.fst, V.int i64 x9.snd.snd]), (1, Ob.var [V.int i64 x10.fst, V.sl rPitch x10.snd.fst, V.sl rB x10.snd.snd.fst, V.int i64 x10.snd.snd.snd.fst, V.int i64 x10.snd.snd.snd.snd.fst, V.int i64 x10.snd.snd.snd.snd.snd.fst, V.int i64 x10.snd.snd.snd.snd.snd.snd.fst, V.sl rI x10.snd.snd.snd.snd.snd.snd.snd.fst, V.str x10.snd.snd.snd.snd.snd.snd.snd.snd])], nx := 2 }
def f6s2 (b1 b2 b11 b12 : Bool) (n13 : Int) (x14 : Int × Int × Int) (x15 : Ev) : St := { fr := [(3, V.ref 0 0 0 0), (5, V.bool true), (6, V.ref 1 0 0 0), (8, V.bool b1), (9, V.bool b2), (12, V.bool b11), (13, V.bool b12), (14, V.int i64 n13)], hp := [(0, Ob.var [V.int i64 x14.fst, V.int i64 x14.snd.fst, V.int i64 x14.snd.snd]), (1, Ob.var [V.int i64 x15.fst, V.sl rPitch x15.snd.fst, V.sl rB x15.snd.snd.fst, V.int i64 x15.snd.snd.snd.fst, V.int i64 x15.snd.snd.snd.snd.fst, V.int i64 x15.snd.snd.snd.snd.snd.fst, V.int i64 x15.snd.snd.snd.snd.snd.snd.fst, V.sl rI x15.snd.snd.snd.snd.snd.snd.snd.fst, V.str x15.snd.snd.snd.snd.snd.snd.snd.snd])], nx := 2 }
noncomputable abbrev k6 {Q : Type} (k : V → List Ob → Option Q) := vend (E22 8) 0 (fb Tryd.f6).1.results.toList false k
theorem f6_go (l : List Ev) (p : Int × Int × Int) :
 vseg (E22 8) f6cuts 0 J (k6 kk) 100000 true [.code (fb Tryd.f6).2] (start ([enc false srE l, enc true rPitch p]) ([])) =
 (bif !fewS l then
 kk (V.bool true) ([])
 else (bif okC10 l then
 (bif !decide ((chordS l).snd = (0 : Int)) then
 kk (V.bool (decide ((↑(List.length (chordS l).fst.snd.fst) : Int) = (0 : Int)))) ([])
 else J f6t10 (f6s0 (l) (false) (false) (0 : Int) (p) ((chordS l).fst)))
 else none)) := by kernel_rfl
theorem f6_0 (l : List Ev) (b1 b2 : Bool) (n3 : Int) (x4 : Int × Int × Int) (x5 : Ev) :
 vseg (E22 8) f6cuts 0 J (k6 kk) 100000 true f6t10 (f6s0 l b1 b2 n3 x4 x5) =
 (bif decide (n3 < (↑l.length : Int)) then
 J f6t13 (f6s1 (l) (b1) (b2) (n3) (0 : Int) (x4) (x5))
 else (bif !decide ((↑x5.snd.snd.fst.length : Int) = (↑x5.snd.fst.length : Int)) then
 kk (V.bool false) ([])
 else J f6t22 (f6s2 (b1) (b2) (false) (false) (0 : Int) (x4) (x5)))) := by kernel_rfl
theorem f6_1 (l : List Ev) (b6 b7 : Bool) (n3 n8 : Int) (x9 : Int × Int × Int) (x10 : Ev) :
 vseg (E22 8) f6cuts 0 J (k6 kk) 100000 true f6t13 (f6s1 l b6 b7 n3 n8 x9 x10) =
 (match idx l n3 with
 | some y16 => (bif decide (n8 < (↑(List.length y16.snd.fst) : Int)) then
 (match idx l n3 with
 | some y17 => (bif decide (n8 < (↑(List.length y17.snd.snd.fst) : Int)) then
 (bif b6 then
 (bif b7 then
 J f6t13 (f6s1 (l) (true) (true) (n3) (i64.wrap (n8 + (1 : Int))) (x9) (x10))
 else (match idx l n3 with
 | some y18 => (match idx y18.snd.fst n8 with
 | some y19 => (bif decide (y19.fst = x9.fst) && (decide (y19.snd.fst = x9.snd.fst) && decide (y19.snd.snd = x9.snd.snd)) then
 (match idx l n3 with
 | some y20 => (match idx y20.snd.snd.fst n8 with
 | some y21 => J f6t13 (f6s1 (l) (true) (y21) (n3) (i64.wrap (n8 + (1 : Int))) (x9) (x10))
 | none => none)
 | none => none)
 else J f6t13 (f6s1 (l) (true) (false) (n3) (i64.wrap (n8 + (1 : Int))) (x9) (x10)))
 | none => none)
 | none => none))
 else (match idx l n3 with
 | some y22 => (match idx y22.snd.fst n8 with
 | some y23 => (bif b7 then
 J f6t13 (f6s1 (l) (decide (y23.fst = x9.fst) && (decide (y23.snd.fst = x9.snd.fst) && decide (y23.snd.snd = x9.snd.snd))) (true) (n3) (i64.wrap (n8 + (1 : Int))) (x9) (x10))
 else (match idx l n3 with
 | some y24 => (match idx y24.snd.fst n8 with
 | some y25 => (bif decide (y25.fst = x9.fst) && (decide (y25.snd.fst = x9.snd.fst) && decide (y25.snd.snd = x9.snd.snd)) then
 (match idx l n3 with
 | some y26 => (match idx y26.snd.snd.fst n8 with
 | some y27 => J f6t13 (f6s1 (l) (decide (y23.fst = x9.fst) && (decide (y23.snd.fst = x9.snd.fst) && decide (y23.snd.snd = x9.snd.snd))) (y27) (n3) (i64.wrap (n8 + (1 : Int))) (x9) (x10))
 | none => none)
 | none => none)
 else J f6t13 (f6s1 (l) (decide (y23.fst = x9.fst) && (decide (y23.snd.fst = x9.snd.fst) && decide (y23.snd.snd = x9.snd.snd))) (false) (n3) (i64.wrap (n8 + (1 : Int))) (x9) (x10)))
 | none => none)
 | none => none))
 | none => none)
 | none => none))
 else J f6t10 (f6s0 (l) (b6) (b7) (i64.wrap (n3 + (1 : Int))) (x9) (x10)))
 | none => none)
 else J f6t10 (f6s0 (l) (b6) (b7) (i64.wrap (n3 + (1 : Int))) (x9) (x10)))
 | none => none) := by kernel_rfl
theorem f6_2 (b1 b2 b11 b12 : Bool) (n13 : Int) (x14 : Int × Int × Int) (x15 : Ev) :
 vseg (E22 8) f6cuts 0 J (k6 kk) 100000 true f6t22 (f6s2 b1 b2 b11 b12 n13 x14 x15) =
 (bif decide (n13 < (↑x15.snd.fst.length : Int)) then
 (bif b11 then
 (bif b12 then
 J f6t22 (f6s2 (b1) (b2) (true) (true) (i64.wrap (n13 + (1 : Int))) (x14) (x15))
 else (match idx x15.snd.fst n13 with
 | some y28 => (bif decide (y28.fst = x14.fst) && (decide (y28.snd.fst = x14.snd.fst) && decide (y28.snd.snd = x14.snd.snd)) then
 (match idx x15.snd.snd.fst n13 with
 | some y29 => J f6t22 (f6s2 (b1) (b2) (true) (y29) (i64.wrap (n13 + (1 : Int))) (x14) (x15))
 | none => none)
 else J f6t22 (f6s2 (b1) (b2) (true) (false) (i64.wrap (n13 + (1 : Int))) (x14) (x15)))
 | none => none))
 else (match idx x15.snd.fst n13 with
 | some y30 => (bif b12 then
 J f6t22 (f6s2 (b1) (b2) (decide (y30.fst = x14.fst) && (decide (y30.snd.fst = x14.snd.fst) && decide (y30.snd.snd = x14.snd.snd))) (true) (i64.wrap (n13 + (1 : Int))) (x14) (x15))
 else (match idx x15.snd.fst n13 with
 | some y31 => (bif decide (y31.fst = x14.fst) && (decide (y31.snd.fst = x14.snd.fst) && decide (y31.snd.snd = x14.snd.snd)) then
 (match idx x15.snd.snd.fst n13 with
 | some y32 => J f6t22 (f6s2 (b1) (b2) (decide (y30.fst = x14.fst) && (decide (y30.snd.fst = x14.snd.fst) && decide (y30.snd.snd = x14.snd.snd))) (y32) (i64.wrap (n13 + (1 : Int))) (x14) (x15))
 | none => none)
 else J f6t22 (f6s2 (b1) (b2) (decide (y30.fst = x14.fst) && (decide (y30.snd.fst = x14.snd.fst) && decide (y30.snd.snd = x14.snd.snd))) (false) (i64.wrap (n13 + (1 : Int))) (x14) (x15)))
 | none => none))
 | none => none))
 else (bif b11 == b1 then
 (bif b12 == b2 then
 (bif decide ((0 : Int) < (↑x15.snd.fst.length : Int)) == decide (x15.fst = (1 : Int)) then
 (bif Ev.okm x15 then
 kk (V.bool (Ev.right x15)) ([])
 else none)
 else kk (V.bool false) ([]))
 else kk (V.bool false) ([]))
 else kk (V.bool false) ([]))) := by kernel_rfl
noncomputable abbrev k7 {Q : Type} (k : V → List Ob → Option Q) := vend (E22 8) 0 (fb Tryd.f7).1.results.toList false k
end Vm.S6b
open Go Go.Proofs
namespace Vm.S6b
theorem okmOf {x : Ev} (h : x.2.2.2.2.2.2.2.1.length ≤ 20) : Ev.okm x = true := decide_eq_true (show x.2.2.2.2.2.2.2.1.length < 4611686018427387904 by omega)
theorem few_okC {l : List Ev} (h : fewS l = true) : okC10 l = true ∧ okC l = true ∧ l.length ≤ 6 ∧ ∀ e ∈ l, e.2.1.length ≤ 20 ∧ e.2.2.1.length ≤ 20 ∧ e.2.2.2.2.2.2.2.1.length ≤ 20 := by
 simp only [fewS, Bool.and_eq_true, decide_eq_true_eq] at h
 obtain ⟨h1, h2⟩ := h
 rw [List.take_of_length_le (by omega), List.all_eq_true] at h1
 have hb : ∀ e ∈ l, e.2.1.length ≤ 20 ∧ e.2.2.1.length ≤ 20 ∧ e.2.2.2.2.2.2.2.1.length ≤ 20 := fun e he => by
  have := h1 e he
  simp only [Ev.fewB, Bool.and_eq_true, decide_eq_true_eq] at this
  exact ⟨this.1, this.2.1, this.2.2.1⟩
 have ho : oksE l = true := by
  unfold oksE
  rw [Bool.and_eq_true]
  exact ⟨List.all_eq_true.2 fun e he => okmOf (hb e he).2.2, decide_eq_true (by omega)⟩
 refine ⟨?_, ?_, h2, hb⟩
 ·unfold okC10; rw [ho, Bool.true_and]; exact decide_eq_true (by omega)
 ·unfold okC; rw [ho, Bool.true_and]; exact decide_eq_true (by omega)
theorem f6_k {R : Type} (kk : V → List Ob → Option R) (l : List Ev) (c : Ev) (p : Pt) (x : Option R) (i : Nat) (hi : i < l.length) (hl : l.length ≤ 6) (hs : l[i].2.2.1.length = l[i].2.1.length) (h8 : l[i].2.1.length ≤ 20) : ∀ (d j : Nat) (b1 b2 : Bool), j + d = l[i].2.1.length →
  (∃ N, vrun (E22 8) f6cuts 0 100000 (k6 kk) N f6t10 (f6s0 l (b1 || (l[i].2.1.drop j).any fun q => decide (q = p)) (b2 || tiedIn (l[i].2.1.drop j) (l[i].2.2.1.drop j) p) ((i + 1 : Nat) : Int) p c) = x) →
  ∃ N, vrun (E22 8) f6cuts 0 100000 (k6 kk) N f6t13 (f6s1 l b1 b2 i j p c) = x := by
 intro d
 induction d with
 | zero =>
   intro j b1 b2 hj hN
   rw [List.drop_eq_nil_of_le (by omega), List.any_nil, Bool.or_false, show tiedIn [] (l[i].2.2.1.drop j) p = false from rfl, Bool.or_false] at hN
   obtain ⟨N, hN⟩ := hN
   refine ⟨N + 1, ?_⟩
   rw [vrun_succ, f6_1, idxL hi]
   dsimp only
   rw [bif_neg (by exact decide_eq_false (by omega)), wrap_succ (by omega)]
   exact hN
 | succ d ih =>
   intro j b1 b2 hj hN
   have hlt : j < l[i].2.1.length := by omega
   have hlt2 : j < l[i].2.2.1.length := by omega
   rw [List.drop_eq_getElem_cons hlt, List.drop_eq_getElem_cons hlt2, List.any_cons, tiedIn, ← Bool.or_assoc, ← Bool.or_assoc] at hN
   obtain ⟨N, hN⟩ := ih (j + 1) _ _ (by omega) hN
   refine ⟨N + 1, ?_⟩
   rw [vrun_succ, f6_1, idxL hi]
   dsimp only
   rw [bif_pos (by exact decide_eq_true (by omega)), bif_pos (by exact decide_eq_true (by omega)), idx_nat, idx_nat, List.getElem?_eq_getElem hlt, List.getElem?_eq_getElem hlt2, wrap_succ (by omega)]
   dsimp only
   simp only [cond3]
   rw [← hN]
   have hsym : decide (p = l[i].2.1[j]) = decide (l[i].2.1[j] = p) := decide_eq_decide.2 ⟨Eq.symm, Eq.symm⟩
   rw [hsym]
   cases b1 <;> cases b2 <;> cases decide (l[i].2.1[j] = p) <;> cases l[i].2.2.1[j] <;> rfl
theorem f6_i {R : Type} (kk : V → List Ob → Option R) (l : List Ev) (c : Ev) (p : Pt) (x : Option R) (hl : l.length ≤ 6) (hs : ∀ e ∈ l, e.sound) (hc : c.2.2.1.length = c.2.1.length) : ∀ (d i : Nat) (b1 b2 : Bool), i + d = l.length →
  (∃ N, vrun (E22 8) f6cuts 0 100000 (k6 kk) N f6t22 (f6s2 (b1 || thereS (l.drop i) p) (b2 || tiedS (l.drop i) p) false false 0 p c) = x) →
  ∃ N, vrun (E22 8) f6cuts 0 100000 (k6 kk) N f6t10 (f6s0 l b1 b2 i p c) = x := by
 intro d
 induction d with
 | zero =>
   intro i b1 b2 hi hN
   rw [List.drop_eq_nil_of_le (by omega), show thereS [] p = false from rfl, show tiedS [] p = false from rfl, Bool.or_false, Bool.or_false] at hN
   obtain ⟨N, hN⟩ := hN
   refine ⟨N + 1, ?_⟩
   rw [vrun_succ, f6_0, bif_neg (by exact decide_eq_false (by omega)), bif_neg (by rw [decide_eq_true (show (c.2.2.1.length : Int) = (c.2.1.length : Int) by omega)]; rfl)]
   exact hN
 | succ d ih =>
   intro i b1 b2 hi hN
   have hlt : i < l.length := by omega
   have hse := hs _ (List.getElem_mem hlt)
   have h8 : l[i].2.1.length ≤ 8 := hse.few
   rw [List.drop_eq_getElem_cons hlt, show thereS (l[i] :: l.drop (i + 1)) p = ((l[i].2.1.any fun q => decide (q = p)) || thereS (l.drop (i + 1)) p) from rfl, show tiedS (l[i] :: l.drop (i + 1)) p = (tiedIn l[i].2.1 l[i].2.2.1 p || tiedS (l.drop (i + 1)) p) from rfl, ← Bool.or_assoc, ← Bool.or_assoc] at hN
   obtain ⟨N, hN⟩ := f6_k kk l c p x i hlt hl hse.len (by omega) l[i].2.1.length 0 b1 b2 (by omega) (ih (i + 1) _ _ (by omega) hN)
   refine ⟨N + 1, ?_⟩
   rw [vrun_succ, f6_0, bif_pos (by exact decide_eq_true (by omega))]
   exact hN
theorem f6_e {R : Type} (kk : V → List Ob → Option R) (c : Ev) (p : Pt) (B1 B2 : Bool) (hc : c.2.2.1.length = c.2.1.length) (h8 : c.2.1.length ≤ 20) (hok : Ev.okm c = true) (hr : c.right = true) (hk : decide (0 < c.pitches.length) = decide (c.kind = 1)) : ∀ (d j : Nat) (b1 b2 : Bool), j + d = c.2.1.length →
  (b1 || (c.2.1.drop j).any fun q => decide (q = p)) = B1 → (b2 || tiedIn (c.2.1.drop j) (c.2.2.1.drop j) p) = B2 →
  ∃ N, vrun (E22 8) f6cuts 0 100000 (k6 kk) N f6t22 (f6s2 B1 B2 b1 b2 j p c) = kk (.bool true) [] := by
 intro d
 induction d with
 | zero =>
   intro j b1 b2 hj e1 e2
   rw [List.drop_eq_nil_of_le (by omega), List.any_nil, Bool.or_false] at e1
   rw [List.drop_eq_nil_of_le (by omega), show tiedIn [] (c.2.2.1.drop j) p = false from rfl, Bool.or_false] at e2
   refine ⟨1, ?_⟩
   have hk' : decide ((0 : Int) < (c.2.1.length : Int)) = decide (c.1 = 1) := by
    rw [show decide (c.1 = 1) = decide (c.kind = 1) from rfl, ← hk]
    exact decide_eq_decide.2 ⟨fun h => by simp only [Ev.pitches]; omega, fun h => by simp only [Ev.pitches] at h; omega⟩
   rw [vrun_succ, f6_2, bif_neg (by exact decide_eq_false (by omega)), e1, e2, hk', hok, hr]
   simp
 | succ d ih =>
   intro j b1 b2 hj e1 e2
   have hlt : j < c.2.1.length := by omega
   have hlt2 : j < c.2.2.1.length := by omega
   rw [List.drop_eq_getElem_cons hlt, List.any_cons, ← Bool.or_assoc] at e1
   rw [List.drop_eq_getElem_cons hlt, List.drop_eq_getElem_cons hlt2, tiedIn, ← Bool.or_assoc] at e2
   obtain ⟨N, hN⟩ := ih (j + 1) _ _ (by omega) e1 e2
   refine ⟨N + 1, ?_⟩
   rw [vrun_succ, f6_2, bif_pos (by exact decide_eq_true (by omega)), idx_nat, idx_nat, List.getElem?_eq_getElem hlt, List.getElem?_eq_getElem hlt2, wrap_succ (by omega)]
   dsimp only
   simp only [cond3]
   rw [← hN]
   have hsym : decide (p = c.2.1[j]) = decide (c.2.1[j] = p) := decide_eq_decide.2 ⟨Eq.symm, Eq.symm⟩
   rw [hsym]
   cases b1 <;> cases b2 <;> cases decide (c.2.1[j] = p) <;> cases c.2.2.1[j] <;> rfl
theorem f6_run {R : Type} (kk : V → List Ob → Option R) (l : List Ev) (p : Pt) :
  ∃ N, vrun (E22 8) f6cuts 0 100000 (k6 kk) N [.code (fb Tryd.f6).2] (start [enc false srE l, enc true rPitch p] []) = kk (.bool true) [] := by
 cases h : fewS l with
 | false =>
   refine ⟨1, ?_⟩
   rw [vrun_succ, f6_go, h]
   rfl
 | true =>
   obtain ⟨h1, _, h3, _⟩ := few_okC h
   by_cases h0 : (chordS l).2 = 0
   ·obtain ⟨hs, c1, c2, c3, c4, c5⟩ := chordS_all h0 p
    obtain ⟨s1, s2, s3⟩ := chordS_short l
    obtain ⟨N, hN⟩ := f6_i kk l (chordS l).1 p (kk (.bool true) []) h3 hs c1 l.length 0 false false (by omega)
     (f6_e kk (chordS l).1 p _ _ c1 (by omega) (okmOf (by omega)) c5 c4 (chordS l).1.2.1.length 0 false false (by omega) (by rw [List.drop_zero, List.drop_zero]; exact congrArg _ c2) (by rw [List.drop_zero, List.drop_zero, List.drop_zero]; exact congrArg _ c3))
    refine ⟨N + 1, ?_⟩
    rw [vrun_succ, f6_go, h, h1, decide_eq_true h0]
    exact hN
   ·refine ⟨1, ?_⟩
    rw [vrun_succ, f6_go, h, h1, decide_eq_false h0, chordS_bad h0]
    rfl
end Vm.S6b
namespace Go.Proofs.YtlbkefgnblajlaaDoor
open Go.ChangeShapes Go.WideShapes Go.ChangeAt Go.WideMaps Go.WideElems Go.RowKit Vm
theorem own : ownKnob Tryd.prog.godebug = none := by kernel_rfl
theorem laidOut : laidOutB Tryd.prog = true := by kernel_rfl
theorem g_dotted : Tryd.prog.globalNamed "partita/value.dotted" = some 0 := by kernel_rfl
theorem g_half : Tryd.prog.globalNamed "partita/pitch.halfTones" = some 1 := by kernel_rfl
theorem t_dotted : (Tryd.prog.globals[0]?).map (·.type) = some 89 := by kernel_rfl
theorem t_half : (Tryd.prog.globals[1]?).map (·.type) = some 109 := by kernel_rfl
abbrev theLaid : List (String × DataW Unit) := [("unicode/utf8.acceptRanges", Rows.laid_unicode_utf8_acceptRanges), ("partita/pitch.halfTones", Rows.laid_partita_pitch_halfTones), ("partita/value.dotted", Rows.laid_partita_value_dotted), ("unicode/utf8.first", Rows.laid_unicode_utf8_first)]
theorem g_first : Tryd.prog.globalNamed "unicode/utf8.first" = some 2 := by kernel_rfl
theorem g_accept : Tryd.prog.globalNamed "unicode/utf8.acceptRanges" = some 3 := by kernel_rfl
theorem t_first : (Tryd.prog.globals[2]?).map (·.type) = some 115 := by kernel_rfl
theorem t_accept : (Tryd.prog.globals[3]?).map (·.type) = some 118 := by kernel_rfl
theorem globs {W : World} (h : laidMetH Tryd.prog theLaid W) : ∀ g r xs, S6b.gls.g g = some ⟨r, xs⟩ → allOld W g ∧ ∀ (i : Nat) x, xs[i]? = some x → Ks.Rep W (allOld W) r x g (i * r.len) := by
 rw [MakeChecks.laidMetH_plain _ _ _ (by kernel_rfl)] at h
 obtain ⟨ps, ⟨g0, t0, cs0, f0, p0, q0, hg0, ht0, hv0, hd0, ⟨g1, t1, cs1, f1, p1, q1, hg1, ht1, hv1, hd1, ⟨g2, t2, cs2, f2, p2, q2, hg2, ht2, hv2, hd2, ⟨g3, t3, cs3, f3, p3, q3, hg3, ht3, hv3, hd3, _, _⟩, _⟩, _⟩, _⟩, _, _⟩ := h
 intro g r xs hg
 have h0 := glob_of (name := "partita/value.dotted") g_dotted t_dotted (.cons (.int .i64) (.cons (.int .i64) .nil)) glDotted (by kernel_rfl) (by kernel_rfl) (by decide) (by rfl) hg2 ht2 hv2 hd2
 have h1 := glob_of (name := "partita/pitch.halfTones") g_half t_half (.cons (.int .i64) .nil) glHalf (by kernel_rfl) (by kernel_rfl) (by decide) (by rfl) hg1 ht1 hv1 hd1
 have h2 := glob_of (name := "unicode/utf8.first") g_first t_first (.cons (.int .u8) .nil) utf8First (by kernel_rfl) (by kernel_rfl) (by decide) (by rfl) hg3 ht3 hv3 hd3
 have h3 := glob_of (name := "unicode/utf8.acceptRanges") g_accept t_accept (.cons (.int .u8) (.cons (.int .u8) .nil)) utf8Accept (by kernel_rfl) (by kernel_rfl) (by decide) (by rfl) hg0 ht0 hv0 hd0
 simp only [S6b.gls, Vm.look] at hg
 split at hg
 ·rename_i e; subst e; cases hg; exact h0
 ·split at hg
  ·rename_i e; subst e; cases hg; exact h1
  ·split at hg
   ·rename_i e; subst e; cases hg; exact h2
   ·split at hg
    ·rename_i e; subst e; cases hg; exact h3
    ·cases hg
noncomputable abbrev W0 (os : Os) : World := World.laidAll Tryd.prog os theLaid
theorem laid_met (os : Os) (args : Array Value) : laidMetH Tryd.prog theLaid ((W0 os).forCall (fun _ _ => 0) ⟨#[], args, []⟩).memory := by
 rw [MakeChecks.laidMetH_plain _ _ _ (by kernel_rfl)]
 exact laidMet_laidAll _ (by kernel_rfl) (by kernel_rfl)
theorem shaped (os : Os) : (W0 os).Shaped Tryd.prog := World.shaped_of_ZipB (by kernel_rfl) (by kernel_rfl)
abbrev wPt : Value := .agg #[.int .i64 0, .int .i64 0, .int .i64 0]
end Go.Proofs.YtlbkefgnblajlaaDoor
