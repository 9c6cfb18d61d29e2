/- A player's keys, signs and times as runs of the value machine. -/
import Derived.Test.YtkhclggkicnndaaDoorLawC
import Derived.Test.YtkhclggkicnndaaDoorVmE
import Derived.KernelRfl
import Derived.Test.YtkhclggkicnndaaDoorWords
import Derived.Test.YtkhclggkicnndaaDoorVmD
set_option maxRecDepth 100000
open Go Go.Proofs Go.IntKind
namespace Vm.S14
variable {R : Type} (J : List Item → St → Option R) (kk : V → List Ob → Option R)
noncomputable abbrev f40Fcuts : Cuts := look [(3, [3, 10])]
noncomputable abbrev f40Ft3 : List Item := itemsAt (fb Tryd.f40).2 3
def f40Fs0 (n1 n2 : Int) (n3 n4 : Int) (n5 n6 : Int) (b7 : Bool) (l8 : List Nt) (l9 : List Bool) (e10 m11 : Cn) (c12 : Option ((Int × Int) × Int)) : St := { fr := [(3, V.nilsl), (10, V.ref 4 0 0 0)], hp := [(0, Ob.var [V.int i64 n1, V.int i64 n2, V.int i64 n3, V.int i64 n4, V.int i64 n5, V.int i64 n6, V.own 1, V.own 2, V.map 3, V.bool b7]), (1, Ob.arr rNote l8 false), (2, Ob.arr rB l9 false), (3, Ob.lmap 4 rK2 true rI false e10), (4, Ob.miter 3 rK2 true rI false m11 c12)], nx := 5 }
def f40Fs1 (n15 n16 : Int) (n17 n18 : Int) (n19 n20 : Int) (b21 : Bool) (l22 : List Nt) (l23 : List Bool) (e24 : Cn) (l25 : List (Int × Int)) (m26 : Cn) (c27 : Option ((Int × Int) × Int)) : St := { fr := [(3, V.own 4), (10, V.ref 5 0 0 0)], hp := [(0, Ob.var [V.int i64 n15, V.int i64 n16, V.int i64 n17, V.int i64 n18, V.int i64 n19, V.int i64 n20, V.own 1, V.own 2, V.map 3, V.bool b21]), (1, Ob.arr rNote l22 false), (2, Ob.arr rB l23 false), (3, Ob.lmap 5 rK2 true rI false e24), (4, Ob.arr rK2 l25 false), (5, Ob.miter 3 rK2 true rI false m26 c27)], nx := 6 }
theorem f40F_go (p : PS) :
 vseg ((E23 8).nds) f40Fcuts 4 J (vend ((E23 8).nds) 4 (fb Tryd.f40).1.results.toList false kk) 100000 true [.code (fb Tryd.f40).2] (start ([V.ref (0 : Nat) (0 : Nat) (0 : Nat) (0 : Nat)]) ([Ob.var [V.int i64 p.place, V.int i64 p.left, V.int i64 p.num, V.int i64 p.den, V.int i64 p.from_, V.int i64 p.to_, V.own (1 : Nat), V.own (2 : Nat), V.map (3 : Nat), V.bool p.on], Ob.arr rNote p.notes false, Ob.arr rB p.down false, Ob.map rK2 true rI false p.cnt])) =
 J f40Ft3 (f40Fs0 (p.place) (p.left) (p.num) (p.den) (p.from_) (p.to_) (p.on) (p.notes) (p.down) (p.cnt) (p.cnt) (none)) := by kernel_rfl
theorem f40F_0 (n1 n2 : Int) (n3 n4 : Int) (n5 n6 : Int) (b7 : Bool) (l8 : List Nt) (l9 : List Bool) (e10 m11 : Cn) (c12 : Option ((Int × Int) × Int)) :
 vseg ((E23 8).nds) f40Fcuts 4 J (vend ((E23 8).nds) 4 (fb Tryd.f40).1.results.toList false kk) 100000 true f40Ft3 (f40Fs0 n1 n2 n3 n4 n5 n6 b7 l8 l9 e10 m11 c12) =
 (bif decide (m11.length = 0) then
 kk (V.nilsl) ([Ob.var [V.int i64 n1, V.int i64 n2, V.int i64 n3, V.int i64 n4, V.int i64 n5, V.int i64 n6, V.own 1, V.own 2, V.map 3, V.bool b7], Ob.arr rNote l8 false, Ob.arr rB l9 false, Ob.map rK2 true rI false e10])
 else allOf m11 (fun i13 (y14 : (Int × Int) × Int) => (bif decide ((0 : Int) < y14.snd) then
 J f40Ft3 (f40Fs1 n1 n2 n3 n4 n5 n6 b7 l8 l9 e10 ([y14.fst]) (m11.eraseIdx i13) (some y14))
 else J f40Ft3 (f40Fs0 n1 n2 n3 n4 n5 n6 b7 l8 l9 e10 (m11.eraseIdx i13) (some y14))))) := by kernel_rfl
theorem f40F_1 (n15 n16 : Int) (n17 n18 : Int) (n19 n20 : Int) (b21 : Bool) (l22 : List Nt) (l23 : List Bool) (e24 : Cn) (l25 : List (Int × Int)) (m26 : Cn) (c27 : Option ((Int × Int) × Int)) :
 vseg ((E23 8).nds) f40Fcuts 4 J (vend ((E23 8).nds) 4 (fb Tryd.f40).1.results.toList false kk) 100000 true f40Ft3 (f40Fs1 n15 n16 n17 n18 n19 n20 b21 l22 l23 e24 l25 m26 c27) =
 (bif decide (m26.length = 0) then
 (bif ckK l25 && decide (l25.length < 256) then
 kk (V.sl rK2 (arL encK («Sort».sort ltK (liftK l25)))) ([Ob.var [V.int i64 n15, V.int i64 n16, V.int i64 n17, V.int i64 n18, V.int i64 n19, V.int i64 n20, V.own 1, V.own 2, V.map 3, V.bool b21], Ob.arr rNote l22 false, Ob.arr rB l23 false, Ob.map rK2 true rI false e24])
 else none)
 else allOf m26 (fun i28 (y29 : (Int × Int) × Int) => (bif decide ((0 : Int) < y29.snd) then
 (bif decide ((l25.length + 1) * 16 ≤ bytesMost) then
 J f40Ft3 (f40Fs1 n15 n16 n17 n18 n19 n20 b21 l22 l23 e24 (l25 ++ [y29.fst]) (m26.eraseIdx i28) (some y29))
 else none)
 else J f40Ft3 (f40Fs1 n15 n16 n17 n18 n19 n20 b21 l22 l23 e24 l25 (m26.eraseIdx i28) (some y29))))) := by kernel_rfl
end Vm.S14
open Go Go.Proofs
namespace Vm.S14
abbrev PSof (n1 n2 n3 n4 n5 n6 : Int) (b7 : Bool) (l8 : List Nt) (l9 : List Bool) (c : Cn) : PS := ⟨n1, n2, n3, n4, n5, n6, l8, l9, c, b7⟩
section
variable {R : Type} (kk : V → List Ob → Option R) (n1 n2 n3 n4 n5 n6 : Int) (b7 : Bool) (l8 : List Nt) (l9 : List Bool) (c : Cn) (hc : ckK (keysUp c) = true) (hL : c.length < 256)
noncomputable abbrev V40 (n : Nat) (t : List Item) (s : St) : Option R := vrun (E23 8).nds f40Fcuts 4 100000 (vend (E23 8).nds 4 (fb Tryd.f40).1.results.toList false kk) n t s
include hc hL in
theorem f40_own : ∀ (k : Nat) (m : Cn) (acc : List (Int × Int)) (x : Option ((Int × Int) × Int)) (N : Nat), m.length = k → k < N → (acc ++ keysUp m).Perm (keysUp c) →
  V40 kk N f40Ft3 (f40Fs1 n1 n2 n3 n4 n5 n6 b7 l8 l9 c acc m x) = kk (.sl rK2 (keysL c)) (PSof n1 n2 n3 n4 n5 n6 b7 l8 l9 c).obs := by
 intro k
 induction k with
 | zero =>
   intro m acc x N hm hN hp
   obtain ⟨N, rfl⟩ : ∃ q, N = q + 1 := ⟨N - 1, by omega⟩
   have hm := List.eq_nil_of_length_eq_zero hm
   subst hm
   rw [show keysUp [] = [] from rfl, List.append_nil] at hp
   have h1 : ckK acc = true := List.all_eq_true.2 fun y hy => List.all_eq_true.1 hc y (hp.mem_iff.1 hy)
   have h2 : acc.length < 256 := by have := hp.length_eq; have := keysUp_len c; omega
   unfold V40
   rw [vrun_succ, f40F_1, bif_pos (by rfl), h1, Bool.true_and, bif_pos (by exact decide_eq_true h2)]
   exact congrArg (fun z : List (Int × Int) => kk (.sl rK2 z) (PSof n1 n2 n3 n4 n5 n6 b7 l8 l9 c).obs) (sortK_same h1 hp)
 | succ k ih =>
   intro m acc x N hm hN hp
   obtain ⟨N, rfl⟩ : ∃ q, N = q + 1 := ⟨N - 1, by omega⟩
   unfold V40
   rw [vrun_succ, f40F_1, bif_neg (by exact decide_eq_false (by omega))]
   refine allOf_const (by intro e; rw [e] at hm; cases hm) fun i e he => ?_
   have hle : (m.eraseIdx i).length = k := by
    obtain ⟨hi, _⟩ := List.getElem?_eq_some_iff.1 he
    rw [List.length_eraseIdx_of_lt hi]; omega
   have hpe := keysUp_erase he
   by_cases h : 0 < e.2
   ·rw [bif_pos (by exact decide_eq_true h), bif_pos (by
      refine decide_eq_true ?_
      have := hp.length_eq
      rw [List.length_append] at this
      have := keysUp_len c
      show (acc.length + 1) * 16 ≤ bytesMost
      have hb : 16 * 257 ≤ bytesMost := by decide
      omega)]
    refine ih _ _ _ _ hle (by omega) (List.Perm.trans ?_ hp)
    rw [if_pos h] at hpe
    rw [List.append_assoc]
    exact (hpe.symm).append_left acc
   ·rw [bif_neg (by exact decide_eq_false h)]
    refine ih _ _ _ _ hle (by omega) (List.Perm.trans ?_ hp)
    rw [if_neg h] at hpe
    exact (hpe.symm).append_left acc
include hc hL in
theorem f40_nil : ∀ (k : Nat) (m : Cn) (x : Option ((Int × Int) × Int)) (N : Nat), m.length = k → k < N → (keysUp m).Perm (keysUp c) →
  V40 kk N f40Ft3 (f40Fs0 n1 n2 n3 n4 n5 n6 b7 l8 l9 c m x) = kk (slN rK2 (keysL c)) (PSof n1 n2 n3 n4 n5 n6 b7 l8 l9 c).obs := by
 intro k
 induction k with
 | zero =>
   intro m x N hm hN hp
   obtain ⟨N, rfl⟩ : ∃ q, N = q + 1 := ⟨N - 1, by omega⟩
   have hm := List.eq_nil_of_length_eq_zero hm
   subst hm
   have e : keysUp c = [] := by rw [show keysUp [] = [] from rfl] at hp; exact hp.nil_eq.symm
   have e2 : keysL c = [] := by
    have := sortK_perm hc
    rw [e] at this
    unfold keysL
    rw [e]; exact this.eq_nil
   unfold V40
   rw [vrun_succ, f40F_0, bif_pos (by rfl), e2]
   rfl
 | succ k ih =>
   intro m x N hm hN hp
   obtain ⟨N, rfl⟩ : ∃ q, N = q + 1 := ⟨N - 1, by omega⟩
   unfold V40
   rw [vrun_succ, f40F_0, bif_neg (by exact decide_eq_false (by omega))]
   refine allOf_const (by intro e; rw [e] at hm; cases hm) fun i e he => ?_
   have hle : (m.eraseIdx i).length = k := by
    obtain ⟨hi, _⟩ := List.getElem?_eq_some_iff.1 he
    rw [List.length_eraseIdx_of_lt hi]; omega
   have hpe := keysUp_erase he
   by_cases h : 0 < e.2
   ·rw [bif_pos (by exact decide_eq_true h)]
    rw [if_pos h] at hpe
    have hne : keysL c ≠ [] := by
     intro e0
     have h1 := sortK_perm hc
     have h2 : sortK (keysUp c) = [] := e0
     rw [h2] at h1
     have h3 := h1.nil_eq
     rw [← h3] at hp
     have h4 := hp.eq_nil
     rw [h4] at hpe
     have := hpe.length_eq
     simp at this
    have hs : slN rK2 (keysL c) = .sl rK2 (keysL c) := by
     cases hk : keysL c with
     | nil => exact (hne hk).elim
     | cons a l => rfl
    rw [hs]
    exact f40_own kk n1 n2 n3 n4 n5 n6 b7 l8 l9 c hc hL k _ _ _ _ hle (by omega) (hpe.symm.trans hp)
   ·rw [bif_neg (by exact decide_eq_false h)]
    rw [if_neg h] at hpe
    exact ih _ _ _ hle (by omega) (hpe.symm.trans hp)
end
theorem f40_run {R : Type} (kk : V → List Ob → Option R) (p : PS) (hc : ckK (keysUp p.cnt) = true) (hL : p.cnt.length < 256) :
  V40 kk 300 [.code (fb Tryd.f40).2] (start [.ref 0 0 0 0] p.obs) = kk (slN rK2 (keysL p.cnt)) p.obs := by
 unfold V40
 rw [show (300 : Nat) = 299 + 1 from rfl, vrun_succ]
 refine (f40F_go _ kk p).trans ?_
 exact f40_nil kk p.place p.left p.num p.den p.from_ p.to_ p.on p.notes p.down p.cnt hc hL p.cnt.length p.cnt none 299 rfl (by omega) (List.Perm.refl _)
noncomputable def f40e : Entry Tryd.prog gls where
 f := 40
 ob := true
 g := fun args os => match args with
   | [.ref 0 0 0 0] => match rdPS os with
     | some p => some (ckK (keysUp p.cnt) && decide (p.cnt.length < 256), .sl rK2 (keysL p.cnt), p.obs)
     | none => none
   | _ => none
 says := by
  intro args os c v os' h hc
  split at h
  ·split at h
   ·rename_i p hp
    cases h
    rw [rdPS_obs hp]
    simp only [Bool.and_eq_true, decide_eq_true_eq] at hc
    have hN := f40_run (fun v os => some (v, os)) p hc.1 hc.2
    refine ⟨?_, rfl⟩
    exact ContractM.val (ps_contract (ready23 8).nds (by exact glE23 8) (fn := (fb Tryd.f40).1) (c := (fb Tryd.f40).2) Tryd.func40 (by kernel_rfl) (by kernel_rfl) (by decide) (rfOk_no (by kernel_rfl)) hN (show 4 ≤ 4 by decide)) (fun _ _ _ _ => slN_rep) rfl
   ·cases h
  ·cases h
noncomputable def es24 : List (Entry Tryd.prog gls) := [f40e] ++ es23
noncomputable def E24 (n : Nat) : Env := interp fns (look tys) gls mvs (tabOf es24) 100000 n
theorem ready24 (n : Nat) : Ready Tryd.prog (E24 n) := ready_of mixed fnsAll tysOk rfsOk n
theorem glE24 (n : Nat) : (E24 n).gl = gls := by cases n <;> rfl
end Vm.S14
open Go Go.Proofs Go.IntKind
namespace Vm.S14
variable {R : Type} (J : List Item → St → Option R) (kk : V → List Ob → Option R)
noncomputable abbrev f41cuts : Cuts := fun _ => none
noncomputable abbrev k41 {Q : Type} (k : V → List Ob → Option Q) := vend (E24 8) 1 (fb Tryd.f41).1.results.toList false k
theorem f41_go (p : PS) :
 vseg (E24 8) f41cuts 1 J (k41 kk) 100000 true [.code (fb Tryd.f41).2] (start ([V.ref (0 : Nat) (0 : Nat) (0 : Nat) (0 : Nat)]) ([Ob.var [V.int i64 p.place, V.int i64 p.left, V.int i64 p.num, V.int i64 p.den, V.int i64 p.from_, V.int i64 p.to_, V.own (1 : Nat), V.own (2 : Nat), V.map (3 : Nat), V.bool p.on], Ob.arr rNote p.notes false, Ob.arr rB p.down false, Ob.map rK2 true rI false p.cnt])) =
 (bif ckK (keysUp p.cnt) && decide (List.length p.cnt < 256) then
 (bif decide ((keysL p.cnt).length < 1000000000) then
 (bif decide ((0 : Nat) + p.down.length ≤ p.down.length ∧ 1 = rB.len ∧ rB.len = rB.len) then
 kk (V.sl rSig (upsAt p.place (keysL p.cnt))) ([Ob.var [V.int i64 p.place, V.int i64 p.left, V.int i64 p.num, V.int i64 p.den, V.int i64 p.from_, V.int i64 p.to_, V.own 1, V.own 2, V.map 3, V.bool p.on], Ob.arr rNote p.notes false, Ob.arr rB (List.take (0 : Nat) p.down ++ (List.replicate p.down.length false ++ List.drop ((0 : Nat) + p.down.length) p.down)) false, Ob.map rK2 true rI false []])
 else none)
 else none)
 else none) := by kernel_rfl
noncomputable abbrev f48cuts : Cuts := look [(4, [0, 1, 5, 6, 15, 16, 17]), (13, [0, 1, 5, 6, 72, 73, 74]), (2000008, [6, 8, 0, 1, 2, 3, 4, 5, 8, 6, 7, 9, 10]), (2000017, [6, 8, 0, 1, 2, 3, 4, 5, 8, 6, 7, 9, 10])]
noncomputable abbrev f48t13 : List Item := itemsAt (fb Tryd.f48).2 13
noncomputable abbrev f48t4 : List Item := itemsAt (fb Tryd.f48).2 4
def f48s0 (t : Int) (p : PS) (n1 n2 n3 n4 n5 n6 n7 : Int) (b8 : Bool) (l9 : List Nt) (l10 : List Bool) (e11 : Cn) : St := { fr := [(0, V.ref 0 0 0 0), (1, V.int i64 t), (5, V.ref 1 0 0 0), (6, V.fn 59 [] [V.ref 1 0 0 0]), (15, V.own 2), (16, V.int i64 (↑p.notes.length : Int)), (17, V.int i64 n1)], hp := [(0, Ob.var [V.int i64 n2, V.int i64 n3, V.int i64 n4, V.int i64 n5, V.int i64 n6, V.int i64 n7, V.own 2, V.own 3, V.map 4, V.bool b8]), (1, Ob.var [V.nilsl]), (2, Ob.arr rNote l9 false), (3, Ob.arr rB l10 false), (4, Ob.map rK2 true rI false e11)], nx := 5 }
def f48s1 (t : Int) (p : PS) (n18 n19 n20 n21 n22 n23 n24 : Int) (b25 : Bool) (l26 : List Nt) (l27 : List Bool) (e28 : Cn) (l29 : List Sg) : St := { fr := [(0, V.ref 0 0 0 0), (1, V.int i64 t), (5, V.ref 1 0 0 0), (6, V.fn 59 [] [V.ref 1 0 0 0]), (15, V.own 2), (16, V.int i64 (↑p.notes.length : Int)), (17, V.int i64 n18)], hp := [(0, Ob.var [V.int i64 n19, V.int i64 n20, V.int i64 n21, V.int i64 n22, V.int i64 n23, V.int i64 n24, V.own 2, V.own 3, V.map 4, V.bool b25]), (1, Ob.var [V.own 5]), (2, Ob.arr rNote l26 false), (3, Ob.arr rB l27 false), (4, Ob.map rK2 true rI false e28), (5, Ob.arr rSig l29 false)], nx := 6 }
def f48s2 (t : Int) (l9 : List Nt) (n30 n31 n32 n33 n34 n35 n36 : Int) (b37 : Bool) (l38 : List Nt) (l39 : List Bool) (e40 : Cn) : St := { fr := [(0, V.ref 0 0 0 0), (1, V.int i64 t), (5, V.ref 1 0 0 0), (6, V.fn 59 [] [V.ref 1 0 0 0]), (72, V.own 2), (73, V.int i64 (↑l9.length : Int)), (74, V.int i64 n30)], hp := [(0, Ob.var [V.int i64 n31, V.int i64 n32, V.int i64 n33, V.int i64 n34, V.int i64 n35, V.int i64 n36, V.own 2, V.own 3, V.map 4, V.bool b37]), (1, Ob.var [V.nilsl]), (2, Ob.arr rNote l38 false), (3, Ob.arr rB l39 false), (4, Ob.map rK2 true rI false e40)], nx := 5 }
def f48s3 (t : Int) (l26 : List Nt) (n47 n48 n49 n50 n51 n52 n53 : Int) (b54 : Bool) (l55 : List Nt) (l56 : List Bool) (e57 : Cn) (l58 : List Sg) : St := { fr := [(0, V.ref 0 0 0 0), (1, V.int i64 t), (5, V.ref 1 0 0 0), (6, V.fn 59 [] [V.ref 1 0 0 0]), (72, V.own 2), (73, V.int i64 (↑l26.length : Int)), (74, V.int i64 n47)], hp := [(0, Ob.var [V.int i64 n48, V.int i64 n49, V.int i64 n50, V.int i64 n51, V.int i64 n52, V.int i64 n53, V.own 2, V.own 3, V.map 4, V.bool b54]), (1, Ob.var [V.own 5]), (2, Ob.arr rNote l55 false), (3, Ob.arr rB l56 false), (4, Ob.map rK2 true rI false e57), (5, Ob.arr rSig l58 false)], nx := 6 }
def f48s4 (t : Int) (l9 : List Nt) (n65 n66 n67 n68 n69 n70 n71 : Int) (b72 : Bool) (l73 : List Nt) (l74 : List Bool) (e75 : Cn) (l76 : List Sg) : St := { fr := [(0, V.ref 0 0 0 0), (1, V.int i64 t), (5, V.ref 1 0 0 0), (6, V.fn 59 [] [V.ref 1 0 0 0]), (72, V.own 2), (73, V.int i64 (↑l9.length : Int)), (74, V.int i64 n65)], hp := [(0, Ob.var [V.int i64 n66, V.int i64 n67, V.int i64 n68, V.int i64 n69, V.int i64 n70, V.int i64 n71, V.own 2, V.own 3, V.map 4, V.bool b72]), (1, Ob.var [V.own 5]), (2, Ob.arr rNote l73 false), (3, Ob.arr rB l74 false), (4, Ob.map rK2 true rI false e75), (5, Ob.arr rSig l76 false)], nx := 6 }
noncomputable abbrev k48 {Q : Type} (k : V → List Ob → Option Q) := vend (E24 8) 1 (fb Tryd.f48).1.results.toList false k
theorem f48_go (p : PS) (t : Int) :
 vseg (E24 8) f48cuts 1 J (k48 kk) 100000 true [.code (fb Tryd.f48).2] (start ([V.ref (0 : Nat) (0 : Nat) (0 : Nat) (0 : Nat), V.int i64 t]) ([Ob.var [V.int i64 p.place, V.int i64 p.left, V.int i64 p.num, V.int i64 p.den, V.int i64 p.from_, V.int i64 p.to_, V.own (1 : Nat), V.own (2 : Nat), V.map (3 : Nat), V.bool p.on], Ob.arr rNote p.notes false, Ob.arr rB p.down false, Ob.map rK2 true rI false p.cnt])) =
 J f48t4 (f48s0 t p (0 : Int) (p.place) (p.left) (p.num) (p.den) (p.from_) (p.to_) (p.on) (p.notes) (p.down) (p.cnt)) := by kernel_rfl
theorem f48_0 (t : Int) (p : PS) (n1 n2 n3 n4 n5 n6 n7 : Int) (b8 : Bool) (l9 : List Nt) (l10 : List Bool) (e11 : Cn) :
 vseg (E24 8) f48cuts 1 J (k48 kk) 100000 true f48t4 (f48s0 t p n1 n2 n3 n4 n5 n6 n7 b8 l9 l10 e11) =
 (bif decide (n1 < (↑p.notes.length : Int)) then
 (match idx l9 n1 with
 | some _ => (match l9[n1.toNat]? with
 | some y13 => (match idx l10 n1 with
 | some _ => (match l10[n1.toNat]? with
 | some y15 => (bif !y15 then
 J f48t4 (f48s0 t p (i64.wrap (n1 + 1)) n2 n3 n4 n5 n6 n7 b8 l9 l10 e11)
 else (bif !decide (y13.snd.snd.snd.snd.snd.fst = t) then
 J f48t4 (f48s0 t p (i64.wrap (n1 + 1)) n2 n3 n4 n5 n6 n7 b8 l9 l10 e11)
 else (match idx l10 n1 with
 | some _ => (match l10[n1.toNat]? with
 | some _ => (both
 ((bif decide ((findKey rK2.beq (y13.snd.fst, y13.snd.snd.fst) (setKey rK2.beq (y13.snd.fst, y13.snd.snd.fst) (i64.wrap ((findKey rK2.beq (y13.snd.fst, y13.snd.snd.fst) e11).getD (Int.ofNat (0 : Nat)) - 1)) e11)).getD (Int.ofNat (0 : Nat)) = 0) then
 J f48t4 (f48s1 t p (i64.wrap (n1 + 1)) n2 n3 n4 n5 n6 n7 b8 l9 (l10.set n1.toNat false) (setKey rK2.beq (y13.snd.fst, y13.snd.snd.fst) (i64.wrap ((findKey rK2.beq (y13.snd.fst, y13.snd.snd.fst) e11).getD (Int.ofNat (0 : Nat)) - 1)) e11) (upsAt t [(y13.snd.fst, y13.snd.snd.fst)]))
 else J f48t4 (f48s0 t p (i64.wrap (n1 + 1)) n2 n3 n4 n5 n6 n7 b8 l9 (l10.set n1.toNat false) (setKey rK2.beq (y13.snd.fst, y13.snd.snd.fst) (i64.wrap ((findKey rK2.beq (y13.snd.fst, y13.snd.snd.fst) e11).getD (Int.ofNat (0 : Nat)) - 1)) e11))))
 ((bif decide ((findKey rK2.beq (y13.snd.fst, y13.snd.snd.fst) (setKey rK2.beq (y13.snd.fst, y13.snd.snd.fst) (i64.wrap ((findKey rK2.beq (y13.snd.fst, y13.snd.snd.fst) e11).getD (Int.ofNat (0 : Nat)) - 1)) e11)).getD (Int.ofNat (0 : Nat)) = 0) then
 J f48t4 (f48s1 t p (i64.wrap (n1 + 1)) n2 n3 n4 n5 n6 n7 b8 l9 (l10.set n1.toNat false) (setKey rK2.beq (y13.snd.fst, y13.snd.snd.fst) (i64.wrap ((findKey rK2.beq (y13.snd.fst, y13.snd.snd.fst) e11).getD (Int.ofNat (0 : Nat)) - 1)) e11) (upsAt t [(y13.snd.fst, y13.snd.snd.fst)]))
 else J f48t4 (f48s0 t p (i64.wrap (n1 + 1)) n2 n3 n4 n5 n6 n7 b8 l9 (l10.set n1.toNat false) (setKey rK2.beq (y13.snd.fst, y13.snd.snd.fst) (i64.wrap ((findKey rK2.beq (y13.snd.fst, y13.snd.snd.fst) e11).getD (Int.ofNat (0 : Nat)) - 1)) e11)))))
 | none => none)
 | none => none)))
 | none => none)
 | none => none)
 | none => none)
 | none => none)
 else J f48t13 (f48s2 t l9 (0 : Int) n2 n3 n4 n5 n6 n7 b8 l9 l10 e11)) := by kernel_rfl
theorem f48_1 (t : Int) (p : PS) (n18 n19 n20 n21 n22 n23 n24 : Int) (b25 : Bool) (l26 : List Nt) (l27 : List Bool) (e28 : Cn) (l29 : List Sg) :
 vseg (E24 8) f48cuts 1 J (k48 kk) 100000 true f48t4 (f48s1 t p n18 n19 n20 n21 n22 n23 n24 b25 l26 l27 e28 l29) =
 (bif decide (n18 < (↑p.notes.length : Int)) then
 (match idx l26 n18 with
 | some _ => (match l26[n18.toNat]? with
 | some y42 => (match idx l27 n18 with
 | some _ => (match l27[n18.toNat]? with
 | some y44 => (bif !y44 then
 J f48t4 (f48s1 t p (i64.wrap (n18 + 1)) n19 n20 n21 n22 n23 n24 b25 l26 l27 e28 l29)
 else (bif !decide (y42.snd.snd.snd.snd.snd.fst = t) then
 J f48t4 (f48s1 t p (i64.wrap (n18 + 1)) n19 n20 n21 n22 n23 n24 b25 l26 l27 e28 l29)
 else (match idx l27 n18 with
 | some _ => (match l27[n18.toNat]? with
 | some _ => (both
 ((bif decide ((findKey rK2.beq (y42.snd.fst, y42.snd.snd.fst) (setKey rK2.beq (y42.snd.fst, y42.snd.snd.fst) (i64.wrap ((findKey rK2.beq (y42.snd.fst, y42.snd.snd.fst) e28).getD (Int.ofNat (0 : Nat)) - 1)) e28)).getD (Int.ofNat (0 : Nat)) = 0) then
 (bif decide ((l29.length + (upsAt t [(y42.snd.fst, y42.snd.snd.fst)]).length) * 40 ≤ bytesMost) then
 J f48t4 (f48s1 t p (i64.wrap (n18 + 1)) n19 n20 n21 n22 n23 n24 b25 l26 (l27.set n18.toNat false) (setKey rK2.beq (y42.snd.fst, y42.snd.snd.fst) (i64.wrap ((findKey rK2.beq (y42.snd.fst, y42.snd.snd.fst) e28).getD (Int.ofNat (0 : Nat)) - 1)) e28) (l29 ++ upsAt t [(y42.snd.fst, y42.snd.snd.fst)]))
 else none)
 else J f48t4 (f48s1 t p (i64.wrap (n18 + 1)) n19 n20 n21 n22 n23 n24 b25 l26 (l27.set n18.toNat false) (setKey rK2.beq (y42.snd.fst, y42.snd.snd.fst) (i64.wrap ((findKey rK2.beq (y42.snd.fst, y42.snd.snd.fst) e28).getD (Int.ofNat (0 : Nat)) - 1)) e28) l29)))
 ((bif decide ((findKey rK2.beq (y42.snd.fst, y42.snd.snd.fst) (setKey rK2.beq (y42.snd.fst, y42.snd.snd.fst) (i64.wrap ((findKey rK2.beq (y42.snd.fst, y42.snd.snd.fst) e28).getD (Int.ofNat (0 : Nat)) - 1)) e28)).getD (Int.ofNat (0 : Nat)) = 0) then
 (bif decide ((l29.length + (upsAt t [(y42.snd.fst, y42.snd.snd.fst)]).length) * 40 ≤ bytesMost) then
 J f48t4 (f48s1 t p (i64.wrap (n18 + 1)) n19 n20 n21 n22 n23 n24 b25 l26 (l27.set n18.toNat false) (setKey rK2.beq (y42.snd.fst, y42.snd.snd.fst) (i64.wrap ((findKey rK2.beq (y42.snd.fst, y42.snd.snd.fst) e28).getD (Int.ofNat (0 : Nat)) - 1)) e28) (l29 ++ upsAt t [(y42.snd.fst, y42.snd.snd.fst)]))
 else none)
 else J f48t4 (f48s1 t p (i64.wrap (n18 + 1)) n19 n20 n21 n22 n23 n24 b25 l26 (l27.set n18.toNat false) (setKey rK2.beq (y42.snd.fst, y42.snd.snd.fst) (i64.wrap ((findKey rK2.beq (y42.snd.fst, y42.snd.snd.fst) e28).getD (Int.ofNat (0 : Nat)) - 1)) e28) l29))))
 | none => none)
 | none => none)))
 | none => none)
 | none => none)
 | none => none)
 | none => none)
 else J f48t13 (f48s3 t l26 (0 : Int) n19 n20 n21 n22 n23 n24 b25 l26 l27 e28 l29)) := by kernel_rfl
theorem f48_2 (t : Int) (l9 : List Nt) (n30 n31 n32 n33 n34 n35 n36 : Int) (b37 : Bool) (l38 : List Nt) (l39 : List Bool) (e40 : Cn) :
 vseg (E24 8) f48cuts 1 J (k48 kk) 100000 true f48t13 (f48s2 t l9 n30 n31 n32 n33 n34 n35 n36 b37 l38 l39 e40) =
 (bif decide (n30 < (↑l9.length : Int)) then
 (match idx l38 n30 with
 | some _ => (match l38[n30.toNat]? with
 | some y60 => (bif !decide (y60.snd.snd.snd.snd.fst = t) then
 J f48t13 (f48s2 t l9 (i64.wrap (n30 + 1)) n31 n32 n33 n34 n35 n36 b37 l38 l39 e40)
 else (match idx l39 n30 with
 | some _ => (match l39[n30.toNat]? with
 | some y62 => (bif y62 then
 J f48t13 (f48s2 t l9 (i64.wrap (n30 + 1)) n31 n32 n33 n34 n35 n36 b37 l38 l39 e40)
 else (match idx l39 n30 with
 | some _ => (match l39[n30.toNat]? with
 | some _ => (both
 ((bif decide ((findKey rK2.beq (y60.snd.fst, y60.snd.snd.fst) (setKey rK2.beq (y60.snd.fst, y60.snd.snd.fst) (i64.wrap ((findKey rK2.beq (y60.snd.fst, y60.snd.snd.fst) e40).getD (Int.ofNat (0 : Nat)) + 1)) e40)).getD (Int.ofNat (0 : Nat)) = 1) then
 J f48t13 (f48s4 t l9 (i64.wrap (n30 + 1)) n31 n32 n33 n34 n35 n36 b37 l38 (l39.set n30.toNat true) (setKey rK2.beq (y60.snd.fst, y60.snd.snd.fst) (i64.wrap ((findKey rK2.beq (y60.snd.fst, y60.snd.snd.fst) e40).getD (Int.ofNat (0 : Nat)) + 1)) e40) ([(t, true, y60.snd.fst, y60.snd.snd.fst, y60.snd.snd.snd.fst)]))
 else J f48t13 (f48s2 t l9 (i64.wrap (n30 + 1)) n31 n32 n33 n34 n35 n36 b37 l38 (l39.set n30.toNat true) (setKey rK2.beq (y60.snd.fst, y60.snd.snd.fst) (i64.wrap ((findKey rK2.beq (y60.snd.fst, y60.snd.snd.fst) e40).getD (Int.ofNat (0 : Nat)) + 1)) e40))))
 ((bif decide ((findKey rK2.beq (y60.snd.fst, y60.snd.snd.fst) (setKey rK2.beq (y60.snd.fst, y60.snd.snd.fst) (i64.wrap ((findKey rK2.beq (y60.snd.fst, y60.snd.snd.fst) e40).getD (Int.ofNat (0 : Nat)) + 1)) e40)).getD (Int.ofNat (0 : Nat)) = 1) then
 J f48t13 (f48s4 t l9 (i64.wrap (n30 + 1)) n31 n32 n33 n34 n35 n36 b37 l38 (l39.set n30.toNat true) (setKey rK2.beq (y60.snd.fst, y60.snd.snd.fst) (i64.wrap ((findKey rK2.beq (y60.snd.fst, y60.snd.snd.fst) e40).getD (Int.ofNat (0 : Nat)) + 1)) e40) ([(t, true, y60.snd.fst, y60.snd.snd.fst, y60.snd.snd.snd.fst)]))
 else J f48t13 (f48s2 t l9 (i64.wrap (n30 + 1)) n31 n32 n33 n34 n35 n36 b37 l38 (l39.set n30.toNat true) (setKey rK2.beq (y60.snd.fst, y60.snd.snd.fst) (i64.wrap ((findKey rK2.beq (y60.snd.fst, y60.snd.snd.fst) e40).getD (Int.ofNat (0 : Nat)) + 1)) e40)))))
 | none => none)
 | none => none))
 | none => none)
 | none => none))
 | none => none)
 | none => none)
 else kk (V.nilsl) ([Ob.var [V.int i64 n31, V.int i64 n32, V.int i64 n33, V.int i64 n34, V.int i64 n35, V.int i64 n36, V.own 1, V.own 2, V.map 3, V.bool b37], Ob.arr rNote l38 false, Ob.arr rB l39 false, Ob.map rK2 true rI false e40])) := by kernel_rfl
theorem f48_3 (t : Int) (l26 : List Nt) (n47 n48 n49 n50 n51 n52 n53 : Int) (b54 : Bool) (l55 : List Nt) (l56 : List Bool) (e57 : Cn) (l58 : List Sg) :
 vseg (E24 8) f48cuts 1 J (k48 kk) 100000 true f48t13 (f48s3 t l26 n47 n48 n49 n50 n51 n52 n53 b54 l55 l56 e57 l58) =
 (bif decide (n47 < (↑l26.length : Int)) then
 (match idx l55 n47 with
 | some _ => (match l55[n47.toNat]? with
 | some y78 => (bif !decide (y78.snd.snd.snd.snd.fst = t) then
 J f48t13 (f48s3 t l26 (i64.wrap (n47 + 1)) n48 n49 n50 n51 n52 n53 b54 l55 l56 e57 l58)
 else (match idx l56 n47 with
 | some _ => (match l56[n47.toNat]? with
 | some y80 => (bif y80 then
 J f48t13 (f48s3 t l26 (i64.wrap (n47 + 1)) n48 n49 n50 n51 n52 n53 b54 l55 l56 e57 l58)
 else (match idx l56 n47 with
 | some _ => (match l56[n47.toNat]? with
 | some _ => (both
 ((bif decide ((findKey rK2.beq (y78.snd.fst, y78.snd.snd.fst) (setKey rK2.beq (y78.snd.fst, y78.snd.snd.fst) (i64.wrap ((findKey rK2.beq (y78.snd.fst, y78.snd.snd.fst) e57).getD (Int.ofNat (0 : Nat)) + 1)) e57)).getD (Int.ofNat (0 : Nat)) = 1) then
 (bif decide ((l58.length + 1) * 40 ≤ bytesMost) then
 J f48t13 (f48s3 t l26 (i64.wrap (n47 + 1)) n48 n49 n50 n51 n52 n53 b54 l55 (l56.set n47.toNat true) (setKey rK2.beq (y78.snd.fst, y78.snd.snd.fst) (i64.wrap ((findKey rK2.beq (y78.snd.fst, y78.snd.snd.fst) e57).getD (Int.ofNat (0 : Nat)) + 1)) e57) (l58 ++ [(t, true, y78.snd.fst, y78.snd.snd.fst, y78.snd.snd.snd.fst)]))
 else none)
 else J f48t13 (f48s3 t l26 (i64.wrap (n47 + 1)) n48 n49 n50 n51 n52 n53 b54 l55 (l56.set n47.toNat true) (setKey rK2.beq (y78.snd.fst, y78.snd.snd.fst) (i64.wrap ((findKey rK2.beq (y78.snd.fst, y78.snd.snd.fst) e57).getD (Int.ofNat (0 : Nat)) + 1)) e57) l58)))
 ((bif decide ((findKey rK2.beq (y78.snd.fst, y78.snd.snd.fst) (setKey rK2.beq (y78.snd.fst, y78.snd.snd.fst) (i64.wrap ((findKey rK2.beq (y78.snd.fst, y78.snd.snd.fst) e57).getD (Int.ofNat (0 : Nat)) + 1)) e57)).getD (Int.ofNat (0 : Nat)) = 1) then
 (bif decide ((l58.length + 1) * 40 ≤ bytesMost) then
 J f48t13 (f48s3 t l26 (i64.wrap (n47 + 1)) n48 n49 n50 n51 n52 n53 b54 l55 (l56.set n47.toNat true) (setKey rK2.beq (y78.snd.fst, y78.snd.snd.fst) (i64.wrap ((findKey rK2.beq (y78.snd.fst, y78.snd.snd.fst) e57).getD (Int.ofNat (0 : Nat)) + 1)) e57) (l58 ++ [(t, true, y78.snd.fst, y78.snd.snd.fst, y78.snd.snd.snd.fst)]))
 else none)
 else J f48t13 (f48s3 t l26 (i64.wrap (n47 + 1)) n48 n49 n50 n51 n52 n53 b54 l55 (l56.set n47.toNat true) (setKey rK2.beq (y78.snd.fst, y78.snd.snd.fst) (i64.wrap ((findKey rK2.beq (y78.snd.fst, y78.snd.snd.fst) e57).getD (Int.ofNat (0 : Nat)) + 1)) e57) l58))))
 | none => none)
 | none => none))
 | none => none)
 | none => none))
 | none => none)
 | none => none)
 else kk (V.sl rSig l58) ([Ob.var [V.int i64 n48, V.int i64 n49, V.int i64 n50, V.int i64 n51, V.int i64 n52, V.int i64 n53, V.own 1, V.own 2, V.map 3, V.bool b54], Ob.arr rNote l55 false, Ob.arr rB l56 false, Ob.map rK2 true rI false e57])) := by kernel_rfl
end Vm.S14
open Go Go.Proofs
namespace Vm.S14
def PS.still (p : PS) : PS := { p with down := List.replicate p.down.length false, cnt := [] }
theorem f41_run {R : Type} (kk : V → List Ob → Option R) (p : PS) (hc : ckK (keysUp p.cnt) = true) (hL : p.cnt.length < 256) :
  vrun (E24 8) f41cuts 1 100000 (k41 kk) 1 [.code (fb Tryd.f41).2] (start [.ref 0 0 0 0] p.obs) = kk (.sl rSig (upsAt p.place (keysL p.cnt))) (PS.still p).obs := by
 rw [vrun_succ]
 refine (f41_go _ kk p).trans ?_
 have hk : (keysL p.cnt).length < 1000000000 := by
  have := (sortK_perm hc).length_eq
  have := keysUp_len p.cnt
  show (sortK (keysUp p.cnt)).length < 1000000000
  omega
 rw [hc, Bool.true_and, bif_pos (by exact decide_eq_true hL), bif_pos (by exact decide_eq_true hk), bif_pos (by exact decide_eq_true ⟨by omega, rfl, rfl⟩), List.take_zero, List.nil_append, List.drop_of_length_le (by omega), List.append_nil]
 rfl
noncomputable def f41e : Entry Tryd.prog gls where
 f := 41
 g := fun args os => match args with
   | [.ref 0 0 0 0] => match rdPS os with
     | some p => some (ckK (keysUp p.cnt) && decide (p.cnt.length < 256), .sl rSig (upsAt p.place (keysL p.cnt)), PS.obs ⟨p.place, p.left, p.num, p.den, p.from_, p.to_, p.notes, List.replicate p.down.length false, [], p.on⟩)
     | none => none
   | _ => none
 says := by
  intro args os c v os' h hc
  split at h
  ·split at h
   ·rename_i p hp
    cases h
    rw [rdPS_obs hp]
    simp only [Bool.and_eq_true, decide_eq_true_eq] at hc
    have hN := f41_run (fun v os => some (v, os)) p hc.1 hc.2
    exact ps_contract (ready24 8) (glE24 8) (fn := (fb Tryd.f41).1) (c := (fb Tryd.f41).2) Tryd.func41 (by kernel_rfl) (by kernel_rfl) (by decide) (rfOk_no (by kernel_rfl)) hN (show 1 ≤ 4 by decide)
   ·cases h
  ·cases h
def st1 (p : PS) (t : Int) (i : Nat) (s : SigSt) : St := match s.2.2 with
 | [] => f48s0 t p i p.place p.left p.num p.den p.from_ p.to_ p.on p.notes s.1 s.2.1
 | x :: q => f48s1 t p i p.place p.left p.num p.den p.from_ p.to_ p.on p.notes s.1 s.2.1 (x :: q)
def st2 (p : PS) (t : Int) (i : Nat) (s : SigSt) : St := match s.2.2 with
 | [] => f48s2 t p.notes i p.place p.left p.num p.den p.from_ p.to_ p.on p.notes s.1 s.2.1
 | x :: q => f48s3 t p.notes i p.place p.left p.num p.den p.from_ p.to_ p.on p.notes s.1 s.2.1 (x :: q)
section
variable {R : Type} (kk : V → List Ob → Option R) (p : PS) (t : Int)
noncomputable abbrev V48 (n : Nat) (u : List Item) (s : St) : Option R := vrun (E24 8) f48cuts 1 100000 (k48 kk) n u s
theorem f48_a (N i : Nat) (n : Nt) (hb : p.notes.length < 1000000) (hn : p.notes[i]? = some n) (s : SigSt) (hd : s.1.length = p.notes.length) (ha : s.2.2.length ≤ 1000000) :
  V48 kk (N + 1) f48t4 (st1 p t i s) = V48 kk N f48t4 (st1 p t (i + 1) (offStep t n i s)) := by
 obtain ⟨d, c, acc⟩ := s
 have hi : i < p.notes.length := (List.getElem?_eq_some_iff.1 hn).1
 obtain ⟨b, hdb⟩ : ∃ b, d[i]? = some b := ⟨_, List.getElem?_eq_getElem (show i < d.length by simp only at hd; omega)⟩
 have hw : IntKind.i64.wrap ((i : Int) + 1) = ((i + 1 : Nat) : Int) := wrap_succ (by omega)
 cases acc with
 | nil =>
   unfold V48
   rw [vrun_succ]
   refine (f48_0 _ kk t p i p.place p.left p.num p.den p.from_ p.to_ p.on p.notes d c).trans ?_
   rw [bif_pos (by exact decide_eq_true (by omega)), idx_nat, idx_nat, hn, Int.toNat_natCast, hn, hdb]
   dsimp only
   unfold offStep
   rw [hw]
   cases b with
   | false => rw [bif_pos (by rfl), if_neg (by rw [hdb]; simp)]; rfl
   | true =>
     rw [bif_neg (by rfl)]
     by_cases ht : n.off = t
     ·rw [bif_neg (by simp only [Bool.not_eq_false', decide_eq_true_eq]; exact ht), both_self, if_pos ⟨by rw [hdb]; rfl, ht⟩]
      dsimp only
      by_cases hz : cntOf (cntSub c n.ck 1) n.ck = 0
      ·rw [if_pos hz]
       exact bif_pos (by exact decide_eq_true hz)
      ·rw [if_neg hz]
       exact bif_neg (by exact decide_eq_false hz)
     ·rw [bif_pos (by simp only [Bool.not_eq_true', decide_eq_false_iff_not]; exact ht), if_neg (fun h => ht h.2)]
      rfl
 | cons x q =>
   unfold V48
   rw [vrun_succ]
   refine (f48_1 _ kk t p i p.place p.left p.num p.den p.from_ p.to_ p.on p.notes d c (x :: q)).trans ?_
   rw [bif_pos (by exact decide_eq_true (by omega)), idx_nat, idx_nat, hn, Int.toNat_natCast, hn, hdb]
   dsimp only
   unfold offStep
   rw [hw]
   cases b with
   | false => rw [bif_pos (by rfl), if_neg (by rw [hdb]; simp)]; rfl
   | true =>
     rw [bif_neg (by rfl)]
     by_cases ht : n.off = t
     ·rw [bif_neg (by simp only [Bool.not_eq_false', decide_eq_true_eq]; exact ht), both_self, if_pos ⟨by rw [hdb]; rfl, ht⟩]
      dsimp only
      by_cases hz : cntOf (cntSub c n.ck 1) n.ck = 0
      ·rw [if_pos hz]
       refine (bif_pos (by exact decide_eq_true hz)).trans ?_
       exact bif_pos (by
        refine decide_eq_true ?_
        simp only [upsAt, List.map_cons, List.map_nil, List.length_cons, List.length_nil] at ha ⊢
        unfold bytesMost; omega)
      ·rw [if_neg hz]
       exact bif_neg (by exact decide_eq_false hz)
     ·rw [bif_pos (by simp only [Bool.not_eq_true', decide_eq_false_iff_not]; exact ht), if_neg (fun h => ht h.2)]
      rfl
theorem f48_b (N i : Nat) (n : Nt) (hb : p.notes.length < 1000000) (hn : p.notes[i]? = some n) (s : SigSt) (hd : s.1.length = p.notes.length) (ha : s.2.2.length ≤ 2000000) :
  V48 kk (N + 1) f48t13 (st2 p t i s) = V48 kk N f48t13 (st2 p t (i + 1) (onStep t n i s)) := by
 obtain ⟨d, c, acc⟩ := s
 have hi : i < p.notes.length := (List.getElem?_eq_some_iff.1 hn).1
 obtain ⟨b, hdb⟩ : ∃ b, d[i]? = some b := ⟨_, List.getElem?_eq_getElem (show i < d.length by simp only at hd; omega)⟩
 have hw : IntKind.i64.wrap ((i : Int) + 1) = ((i + 1 : Nat) : Int) := wrap_succ (by omega)
 cases acc with
 | nil =>
   unfold V48
   rw [vrun_succ]
   refine (f48_2 _ kk t p.notes i p.place p.left p.num p.den p.from_ p.to_ p.on p.notes d c).trans ?_
   rw [bif_pos (by exact decide_eq_true (by omega)), idx_nat, idx_nat, hn, Int.toNat_natCast, hn, hdb]
   dsimp only
   unfold onStep
   rw [hw]
   by_cases ht : n.on = t
   ·rw [bif_neg (by simp only [Bool.not_eq_false', decide_eq_true_eq]; exact ht)]
    cases b with
    | true => rw [bif_pos (by rfl), if_neg (by rw [hdb]; simp)]; rfl
    | false =>
      rw [bif_neg (by rfl), both_self, if_pos ⟨ht, by rw [hdb]; rfl⟩]
      dsimp only
      by_cases hz : cntOf (cntAdd c n.ck 1) n.ck = 1
      ·rw [if_pos hz]
       exact bif_pos (by exact decide_eq_true hz)
      ·rw [if_neg hz]
       exact bif_neg (by exact decide_eq_false hz)
   ·rw [bif_pos (by simp only [Bool.not_eq_true', decide_eq_false_iff_not]; exact ht), if_neg (fun h => ht h.1)]
    rfl
 | cons x q =>
   unfold V48
   rw [vrun_succ]
   refine (f48_3 _ kk t p.notes i p.place p.left p.num p.den p.from_ p.to_ p.on p.notes d c (x :: q)).trans ?_
   rw [bif_pos (by exact decide_eq_true (by omega)), idx_nat, idx_nat, hn, Int.toNat_natCast, hn, hdb]
   dsimp only
   unfold onStep
   rw [hw]
   by_cases ht : n.on = t
   ·rw [bif_neg (by simp only [Bool.not_eq_false', decide_eq_true_eq]; exact ht)]
    cases b with
    | true => rw [bif_pos (by rfl), if_neg (by rw [hdb]; simp)]; rfl
    | false =>
      rw [bif_neg (by rfl), both_self, if_pos ⟨ht, by rw [hdb]; rfl⟩]
      dsimp only
      by_cases hz : cntOf (cntAdd c n.ck 1) n.ck = 1
      ·rw [if_pos hz]
       refine (bif_pos (by exact decide_eq_true hz)).trans ?_
       exact bif_pos (by
        refine decide_eq_true ?_
        simp only [List.length_cons] at ha ⊢
        unfold bytesMost; omega)
      ·rw [if_neg hz]
       exact bif_neg (by exact decide_eq_false hz)
   ·rw [bif_pos (by simp only [Bool.not_eq_true', decide_eq_false_iff_not]; exact ht), if_neg (fun h => ht h.1)]
    rfl
theorem f48_A (hb : p.notes.length < 1000000) (M : Nat) : ∀ (k i : Nat) (s : SigSt), i + k = p.notes.length → s.1.length = p.notes.length → s.2.2.length ≤ i →
  V48 kk (M + 1 + k) f48t4 (st1 p t i s) = V48 kk M f48t13 (st2 p t 0 (offF t (p.notes.drop i) i s)) := by
 intro k
 induction k with
 | zero =>
   intro i s hi hd ha
   rw [List.drop_of_length_le (by omega)]
   obtain ⟨d, c, acc⟩ := s
   cases acc with
   | nil =>
     unfold V48
     rw [Nat.add_zero, vrun_succ]
     refine (f48_0 _ kk t p i p.place p.left p.num p.den p.from_ p.to_ p.on p.notes d c).trans ?_
     exact bif_neg (by exact decide_eq_false (by omega))
   | cons x q =>
     unfold V48
     rw [Nat.add_zero, vrun_succ]
     refine (f48_1 _ kk t p i p.place p.left p.num p.den p.from_ p.to_ p.on p.notes d c (x :: q)).trans ?_
     exact bif_neg (by exact decide_eq_false (by omega))
 | succ k ih =>
   intro i s hi hd ha
   have h1 : i < p.notes.length := by omega
   rw [show M + 1 + (k + 1) = (M + 1 + k) + 1 by omega, f48_a kk p t _ i p.notes[i] hb (List.getElem?_eq_getElem h1) s hd (by omega), List.drop_eq_getElem_cons h1]
   have := offStep_len t p.notes[i] i s
   exact ih (i + 1) _ (by omega) (by omega) (by omega)
theorem f48_B (hb : p.notes.length < 1000000) : ∀ (k i : Nat) (s : SigSt), i + k = p.notes.length → s.1.length = p.notes.length → s.2.2.length ≤ p.notes.length + i →
  V48 kk (1 + k) f48t13 (st2 p t i s) = kk (slN rSig (onF t (p.notes.drop i) i s).2.2) (PS.obs ⟨p.place, p.left, p.num, p.den, p.from_, p.to_, p.notes, (onF t (p.notes.drop i) i s).1, (onF t (p.notes.drop i) i s).2.1, p.on⟩) := by
 intro k
 induction k with
 | zero =>
   intro i s hi hd ha
   rw [List.drop_of_length_le (by omega)]
   obtain ⟨d, c, acc⟩ := s
   cases acc with
   | nil =>
     unfold V48
     rw [Nat.add_zero, show (1 : Nat) = 0 + 1 from rfl, vrun_succ]
     refine (f48_2 _ kk t p.notes i p.place p.left p.num p.den p.from_ p.to_ p.on p.notes d c).trans ?_
     exact bif_neg (by exact decide_eq_false (by omega))
   | cons x q =>
     unfold V48
     rw [Nat.add_zero, show (1 : Nat) = 0 + 1 from rfl, vrun_succ]
     refine (f48_3 _ kk t p.notes i p.place p.left p.num p.den p.from_ p.to_ p.on p.notes d c (x :: q)).trans ?_
     exact bif_neg (by exact decide_eq_false (by omega))
 | succ k ih =>
   intro i s hi hd ha
   have h1 : i < p.notes.length := by omega
   rw [show 1 + (k + 1) = (1 + k) + 1 by omega, f48_b kk p t _ i p.notes[i] hb (List.getElem?_eq_getElem h1) s hd (by omega), List.drop_eq_getElem_cons h1]
   have := onStep_len t p.notes[i] i s
   exact ih (i + 1) _ (by omega) (by omega) (by omega)
theorem f48_run (hb : p.notes.length < 1000000) (hd : p.down.length = p.notes.length) :
  ∃ N, V48 kk N [.code (fb Tryd.f48).2] (start [.ref 0 0 0 0, .int .i64 t] p.obs) = kk (slN rSig (sigsF t p.notes p.down p.cnt).2.2) (PS.obs ⟨p.place, p.left, p.num, p.den, p.from_, p.to_, p.notes, (sigsF t p.notes p.down p.cnt).1, (sigsF t p.notes p.down p.cnt).2.1, p.on⟩) := by
 refine ⟨(1 + p.notes.length) + 1 + p.notes.length + 1, ?_⟩
 unfold V48
 rw [vrun_succ]
 refine (f48_go _ kk p t).trans ?_
 have h1 := f48_A kk p t hb (1 + p.notes.length) p.notes.length 0 (p.down, p.cnt, []) (by omega) hd (by simp)
 have h2 := offF_len t p.notes 0 (p.down, p.cnt, [])
 simp only [List.length_nil] at h2
 have h3 := f48_B kk p t hb p.notes.length 0 (offF t p.notes 0 (p.down, p.cnt, [])) (by omega) (by omega) (by omega)
 rw [List.drop_zero] at h1 h3
 exact h1.trans h3
end
noncomputable def f48e : Entry Tryd.prog gls where
 f := 48
 g := fun args os => match args with
   | [.ref 0 0 0 0, .int .i64 t] => match rdPS os with
     | some p => some (decide (p.notes.length < 1000000 ∧ p.down.length = p.notes.length), .sl rSig (sigsF t p.notes p.down p.cnt).2.2, PS.obs ⟨p.place, p.left, p.num, p.den, p.from_, p.to_, p.notes, (sigsF t p.notes p.down p.cnt).1, (sigsF t p.notes p.down p.cnt).2.1, p.on⟩)
     | none => none
   | _ => none
 says := by
  intro args os c v os' h hc
  split at h
  ·split at h
   ·rename_i t q p hp
    cases h
    rw [rdPS_obs hp]
    obtain ⟨h1, h2⟩ := of_decide_eq_true hc
    obtain ⟨N, hN⟩ := f48_run (fun v os => some (v, os)) p t h1 h2
    exact ContractM.val (ps_contract (ready24 8) (glE24 8) (fn := (fb Tryd.f48).1) (c := (fb Tryd.f48).2) Tryd.func48 (by kernel_rfl) (by kernel_rfl) (by decide) (rfOk_no (by kernel_rfl)) hN (show 1 ≤ 4 by decide)) (fun _ _ _ _ => slN_rep) rfl
   ·cases h
  ·cases h
noncomputable def es25 : List (Entry Tryd.prog gls) := [f41e, f48e] ++ es24
noncomputable def E25 (n : Nat) : Env := interp fns (look tys) gls mvs (tabOf es25) 100000 n
theorem ready25 (n : Nat) : Ready Tryd.prog (E25 n) := ready_of mixed fnsAll tysOk rfsOk n
theorem glE25 (n : Nat) : (E25 n).gl = gls := by cases n <;> rfl
end Vm.S14
open Go Go.Proofs Go.IntKind
namespace Vm.S14
variable {R : Type} (J : List Item → St → Option R) (kk : V → List Ob → Option R)
noncomputable abbrev f39acuts : Cuts := look [(2, [1, 2, 4, 5]), (1000010, [39010, 1, 2, 4, 5, 7, 8])]
theorem f39a_go (p : PS) (n t to : Int) (b : Bool) :
 vseg (E25 8) f39acuts 7 J (vendR 7 kk) 100000 true (roundTodo (rfOf (fb Tryd.f39) 10)) (startR (rfOf (fb Tryd.f39) 10) ([V.yld (0 : Nat), V.int i64 t]).tail ([Ob.loop (39010 : Nat) [((1 : Nat), V.int i64 n), ((2 : Nat), V.ref (1 : Nat) (0 : Nat) (0 : Nat) (0 : Nat)), ((4 : Nat), V.nilsl), ((5 : Nat), V.ref (2 : Nat) (0 : Nat) (0 : Nat) (0 : Nat)), ((7 : Nat), V.bool b), ((8 : Nat), V.int i64 to)] (0 : Nat), Ob.var [V.ref (3 : Nat) (0 : Nat) (0 : Nat) (0 : Nat)], Ob.var [V.nilsl], Ob.var [V.int i64 p.place, V.int i64 p.left, V.int i64 p.num, V.int i64 p.den, V.int i64 p.from_, V.int i64 p.to_, V.own (4 : Nat), V.own (5 : Nat), V.map (6 : Nat), V.bool p.on], Ob.arr rNote p.notes false, Ob.arr rB p.down false, Ob.map rK2 true rI false p.cnt])) =
 (bif decide (p.notes.length < 1000000 ∧ p.down.length = p.notes.length) then
 (bif decide ((sigsF t p.notes p.down p.cnt).snd.snd.length * 40 ≤ bytesMost) then
 kk (V.bool true) ([Ob.loop 39010 [(1, V.int i64 n), (2, V.ref 1 0 0 0), (4, V.nilsl), (5, V.ref 2 0 0 0), (7, V.bool b), (8, V.int i64 to)] 0, Ob.var [V.ref 3 0 0 0], Ob.var [V.own 7], Ob.var [V.int i64 p.place, V.int i64 p.left, V.int i64 p.num, V.int i64 p.den, V.int i64 p.from_, V.int i64 p.to_, V.own 8, V.own 9, V.map 10, V.bool p.on], Ob.dead, Ob.dead, Ob.dead, Ob.arr rSig (sigsF t p.notes p.down p.cnt).snd.snd false, Ob.arr rNote p.notes false, Ob.arr rB (sigsF t p.notes p.down p.cnt).fst false, Ob.map rK2 true rI false (sigsF t p.notes p.down p.cnt).snd.fst])
 else none)
 else none) := by kernel_rfl
noncomputable abbrev f39bcuts : Cuts := look [(2, [1, 2, 4, 5]), (1000010, [39010, 1, 2, 4, 5, 7, 8])]
theorem f39b_go (p : PS) (n t to : Int) (b : Bool) (l : List Sg) :
 vseg (E25 8) f39bcuts 8 J (vendR 8 kk) 100000 true (roundTodo (rfOf (fb Tryd.f39) 10)) (startR (rfOf (fb Tryd.f39) 10) ([V.yld (0 : Nat), V.int i64 t]).tail ([Ob.loop (39010 : Nat) [((1 : Nat), V.int i64 n), ((2 : Nat), V.ref (1 : Nat) (0 : Nat) (0 : Nat) (0 : Nat)), ((4 : Nat), V.nilsl), ((5 : Nat), V.ref (2 : Nat) (0 : Nat) (0 : Nat) (0 : Nat)), ((7 : Nat), V.bool b), ((8 : Nat), V.int i64 to)] (0 : Nat), Ob.var [V.ref (3 : Nat) (0 : Nat) (0 : Nat) (0 : Nat)], Ob.var [V.own (4 : Nat)], Ob.var [V.int i64 p.place, V.int i64 p.left, V.int i64 p.num, V.int i64 p.den, V.int i64 p.from_, V.int i64 p.to_, V.own (5 : Nat), V.own (6 : Nat), V.map (7 : Nat), V.bool p.on], Ob.arr rSig l false, Ob.arr rNote p.notes false, Ob.arr rB p.down false, Ob.map rK2 true rI false p.cnt])) =
 (bif decide (p.notes.length < 1000000 ∧ p.down.length = p.notes.length) then
 (bif decide ((l.length + (sigsF t p.notes p.down p.cnt).snd.snd.length) * 40 ≤ bytesMost) then
 kk (V.bool true) ([Ob.loop 39010 [(1, V.int i64 n), (2, V.ref 1 0 0 0), (4, V.nilsl), (5, V.ref 2 0 0 0), (7, V.bool b), (8, V.int i64 to)] 0, Ob.var [V.ref 3 0 0 0], Ob.var [V.own 8], Ob.var [V.int i64 p.place, V.int i64 p.left, V.int i64 p.num, V.int i64 p.den, V.int i64 p.from_, V.int i64 p.to_, V.own 9, V.own 10, V.map 11, V.bool p.on], Ob.dead, Ob.dead, Ob.dead, Ob.dead, Ob.arr rSig (l ++ (sigsF t p.notes p.down p.cnt).snd.snd) false, Ob.arr rNote p.notes false, Ob.arr rB (sigsF t p.notes p.down p.cnt).fst false, Ob.map rK2 true rI false (sigsF t p.notes p.down p.cnt).snd.fst])
 else none)
 else none) := by kernel_rfl
end Vm.S14
open Go Go.Proofs
namespace Vm.S14
abbrev frR (n : Int) (b : Bool) (to : Int) (i j : Nat) : List (Nat × V) := [(1, .int .i64 n), (2, .ref i 0 0 0), (4, .nilsl), (5, .ref j 0 0 0), (7, .bool b), (8, .int .i64 to)]
structure RS where
 n : Int
 b : Bool
 to : Int
 q : Option (List Sg)
 p : PS
abbrev RS.obs (r : RS) : List Ob := match r.q with
 | none => [.loop 39010 (frR r.n r.b r.to 1 2) 0, .var [.ref 3 0 0 0], .var [.nilsl], .var (r.p.cells 4 5 6), .arr rNote r.p.notes false, .arr rB r.p.down false, .map rK2 true rI false r.p.cnt]
 | some l => [.loop 39010 (frR r.n r.b r.to 1 2) 0, .var [.ref 3 0 0 0], .var [.own 4], .var (r.p.cells 5 6 7), .arr rSig l false, .arr rNote r.p.notes false, .arr rB r.p.down false, .map rK2 true rI false r.p.cnt]
def RS.obs' (r : RS) (xs : List Sg) (d : List Bool) (c : Cn) : List Ob := match r.q with
 | none => [.loop 39010 (frR r.n r.b r.to 1 2) 0, .var [.ref 3 0 0 0], .var [.own 7], .var (r.p.cells 8 9 10), .dead, .dead, .dead, .arr rSig xs false, .arr rNote r.p.notes false, .arr rB d false, .map rK2 true rI false c]
 | some l => [.loop 39010 (frR r.n r.b r.to 1 2) 0, .var [.ref 3 0 0 0], .var [.own 8], .var (r.p.cells 9 10 11), .dead, .dead, .dead, .dead, .arr rSig (l ++ xs) false, .arr rNote r.p.notes false, .arr rB d false, .map rK2 true rI false c]
def okR (l : List Nt) (d : List Bool) (k : Nat) : Bool := decide (l.length < 1000000 ∧ d.length = l.length) && decide (k ≤ 1000000000)
def RS.ok (r : RS) : Bool := match r.q with
 | none => okR r.p.notes r.p.down 0
 | some l => okR r.p.notes r.p.down l.length
def rdRS (os : List Ob) : Option RS := match os with
 | [.loop 39010 [(1, .int .i64 n), (2, .ref 1 0 0 0), (4, .nilsl), (5, .ref 2 0 0 0), (7, .bool b), (8, .int .i64 to)] 0, .var [.ref 3 0 0 0], .var [.nilsl], .var [.int .i64 a1, .int .i64 a2, .int .i64 a3, .int .i64 a4, .int .i64 a5, .int .i64 a6, .own 4, .own 5, .map 6, .bool o], .arr r ns false, .arr r' ds false, .map kr true vr false cs] =>
   match Ks.eqp r rNote, Ks.eqp r' rB, Ks.eqp kr rK2, Ks.eqp vr rI with
   | some ⟨h1⟩, some ⟨h2⟩, some ⟨h3⟩, some ⟨h4⟩ => some ⟨n, b, to, none, ⟨a1, a2, a3, a4, a5, a6, Ks.cast h1 ns, Ks.cast h2 ds, Ks.castM h3 h4 cs, o⟩⟩
   | _, _, _, _ => none
 | [.loop 39010 [(1, .int .i64 n), (2, .ref 1 0 0 0), (4, .nilsl), (5, .ref 2 0 0 0), (7, .bool b), (8, .int .i64 to)] 0, .var [.ref 3 0 0 0], .var [.own 4], .var [.int .i64 a1, .int .i64 a2, .int .i64 a3, .int .i64 a4, .int .i64 a5, .int .i64 a6, .own 5, .own 6, .map 7, .bool o], .arr r0 l false, .arr r ns false, .arr r' ds false, .map kr true vr false cs] =>
   match Ks.eqp r0 rSig, Ks.eqp r rNote, Ks.eqp r' rB, Ks.eqp kr rK2, Ks.eqp vr rI with
   | some ⟨h0⟩, some ⟨h1⟩, some ⟨h2⟩, some ⟨h3⟩, some ⟨h4⟩ => some ⟨n, b, to, some (Ks.cast h0 l), ⟨a1, a2, a3, a4, a5, a6, Ks.cast h1 ns, Ks.cast h2 ds, Ks.castM h3 h4 cs, o⟩⟩
   | _, _, _, _, _ => none
 | _ => none
theorem rdRS_obs {os : List Ob} {r : RS} (h : rdRS os = some r) : os = r.obs := by
 unfold rdRS at h
 split at h
 ·split at h
  ·rename_i h1 h2 h3 h4 _ _ _ _
   subst h1; subst h2; subst h3; subst h4
   cases h
   rfl
  ·cases h
 ·split at h
  ·rename_i h0 h1 h2 h3 h4 _ _ _ _ _
   subst h0; subst h1; subst h2; subst h3; subst h4
   cases h
   rfl
  ·cases h
 ·cases h
noncomputable def q39 : RF := rfOf (fb Tryd.f39) 10
theorem r39_con (r : RS) (t : Int) (h : r.ok = true) : ContractM Tryd.prog gls r.obs.length 1000039010 [.yld 0, .int .i64 t] r.obs (.bool true) (r.obs' (sigsF t r.p.notes r.p.down r.p.cnt).2.2 (sigsF t r.p.notes r.p.down r.p.cnt).1 (sigsF t r.p.notes r.p.down r.p.cnt).2.1) := by
 obtain ⟨n, b, to, q, p⟩ := r
 have hs := sigsF_len t p.notes p.down p.cnt
 cases q with
 | none =>
   have h : okR p.notes p.down 0 = true := h
   unfold okR at h
   simp only [Bool.and_eq_true, decide_eq_true_eq] at h
   replace h := h.1
   have hN : vrun (E25 8) f39acuts 7 100000 (vendR 7 fun v os => some (v, os)) 1 (roundTodo q39) (startR q39 [.int .i64 t] (RS.obs ⟨n, b, to, none, p⟩)) = some (.bool true, RS.obs' ⟨n, b, to, none, p⟩ (sigsF t p.notes p.down p.cnt).2.2 (sigsF t p.notes p.down p.cnt).1 (sigsF t p.notes p.down p.cnt).2.1) := by
    rw [vrun_succ]
    refine (f39a_go _ (fun v os => some (v, os)) p n t to b).trans ?_
    rw [bif_pos (by exact decide_eq_true h), bif_pos (by exact decide_eq_true (by unfold bytesMost; omega))]
    rfl
   have := contract_round (m := 7) (y := 39010) (by decide) mixed (ready25 8) (show (E25 8).gl.rf 39010 = some q39 by rw [glE25]; rfl) (by kernel_rfl) (by rw [glE25]; exact ⟨rfOk_no (by kernel_rfl), rfOk_no (by kernel_rfl)⟩) hN (Nat.le_refl _)
   rw [glE25] at this
   exact this
 | some l =>
   have h : okR p.notes p.down l.length = true := h
   unfold okR at h
   simp only [Bool.and_eq_true, decide_eq_true_eq] at h
   have hN : vrun (E25 8) f39bcuts 8 100000 (vendR 8 fun v os => some (v, os)) 1 (roundTodo q39) (startR q39 [.int .i64 t] (RS.obs ⟨n, b, to, some l, p⟩)) = some (.bool true, RS.obs' ⟨n, b, to, some l, p⟩ (sigsF t p.notes p.down p.cnt).2.2 (sigsF t p.notes p.down p.cnt).1 (sigsF t p.notes p.down p.cnt).2.1) := by
    rw [vrun_succ]
    refine (f39b_go _ (fun v os => some (v, os)) p n t to b l).trans ?_
    rw [bif_pos (by exact decide_eq_true h.1), bif_pos (by exact decide_eq_true (by unfold bytesMost; omega))]
    rfl
   have := contract_round (m := 8) (y := 39010) (by decide) mixed (ready25 8) (show (E25 8).gl.rf 39010 = some q39 by rw [glE25]; rfl) (by kernel_rfl) (by rw [glE25]; exact ⟨rfOk_no (by kernel_rfl), rfOk_no (by kernel_rfl)⟩) hN (Nat.le_refl _)
   rw [glE25] at this
   exact this
noncomputable def r39e : Entry Tryd.prog gls where
 f := 1000039010
 fl := true
 g := fun args os => match args with
   | [.yld 0, .int .i64 t] => match rdRS os with
     | some ⟨n, b, to, none, p⟩ => some (okR p.notes p.down 0, .bool true, RS.obs' ⟨n, b, to, none, p⟩ (sigsF t p.notes p.down p.cnt).2.2 (sigsF t p.notes p.down p.cnt).1 (sigsF t p.notes p.down p.cnt).2.1)
     | some ⟨n, b, to, some l, p⟩ => some (okR p.notes p.down l.length, .bool true, RS.obs' ⟨n, b, to, some l, p⟩ (sigsF t p.notes p.down p.cnt).2.2 (sigsF t p.notes p.down p.cnt).1 (sigsF t p.notes p.down p.cnt).2.1)
     | none => none
   | _ => none
 says := by
  intro args os c v os' h hc
  split at h
  ·split at h
   ·rename_i t q n b to p hr
    cases h
    rw [rdRS_obs hr]
    exact r39_con ⟨n, b, to, none, p⟩ t hc
   ·rename_i t q n b to l p hr
    cases h
    rw [rdRS_obs hr]
    exact r39_con ⟨n, b, to, some l, p⟩ t hc
   ·cases h
  ·cases h
noncomputable def es26 : List (Entry Tryd.prog gls) := [r39e] ++ es25
noncomputable def E26 (n : Nat) : Env := interp fns (look tys) gls mvs (tabOf es26) 100000 n
theorem ready26 (n : Nat) : Ready Tryd.prog (E26 n) := ready_of mixed fnsAll tysOk rfsOk n
theorem glE26 (n : Nat) : (E26 n).gl = gls := by cases n <;> rfl
end Vm.S14
open Go Go.Proofs Go.IntKind
namespace Vm.S14
variable {R : Type} (J : List Item → St → Option R) (kk : V → List Ob → Option R)
noncomputable abbrev f58aFcuts : Cuts := look [(0, [0, 1, 2, 3]), (2, [0, 1, 2, 3, 5, 12, 13, 14])]
noncomputable abbrev f58aFt0 : List Item := itemsAt (fb Tryd.f58).2 0
noncomputable abbrev f58aFt2 : List Item := itemsAt (fb Tryd.f58).2 2
def f58aFs0 (n1 : Int) (p : PS) (n2 n : Int) (b : Bool) (tf n3 n4 n5 n6 n7 n8 n9 n10 : Int) (b11 : Bool) (l12 : List Nt) (l13 : List Bool) (e14 : Cn) : St := { fr := [(0, V.yld 0), (1, V.ref 1 0 0 0), (2, V.ref 2 0 0 0), (3, V.ref 3 0 0 0), (5, V.int i64 n1), (12, V.own 7), (13, V.int i64 (↑p.notes.length : Int)), (14, V.int i64 n2)], hp := [(0, Ob.loop 39010 [(1, V.int i64 n), (2, V.ref 4 0 0 0), (4, V.nilsl), (5, V.ref 5 0 0 0), (7, V.bool b), (8, V.int i64 tf)] 0), (1, Ob.var [V.int i64 n3]), (2, Ob.var [V.ref 6 0 0 0]), (3, Ob.var [V.int i64 n4]), (4, Ob.var [V.ref 6 0 0 0]), (5, Ob.var [V.nilsl]), (6, Ob.var [V.int i64 n5, V.int i64 n6, V.int i64 n7, V.int i64 n8, V.int i64 n9, V.int i64 n10, V.own 7, V.own 8, V.map 9, V.bool b11]), (7, Ob.arr rNote l12 false), (8, Ob.arr rB l13 false), (9, Ob.map rK2 true rI false e14)], nx := 10 }
def f58aFs1 (n : Int) (b : Bool) (tf n5 n6 n7 n8 n9 n10 : Int) (l12 : List Nt) (l13 : List Bool) (e14 : Cn) (b11 : Bool) (n21 n22 n23 n24 n25 n26 n27 n28 : Int) (b29 : Bool) (l30 : List Sg) (l31 : List Nt) (l32 : List Bool) (e33 : Cn) : St := { fr := [(0, V.yld 0), (1, V.ref 1 0 0 0), (2, V.ref 2 0 0 0), (3, V.ref 3 0 0 0)], hp := [(0, Ob.loop 39010 [(1, V.int i64 n), (2, V.ref 4 0 0 0), (4, V.nilsl), (5, V.ref 5 0 0 0), (7, V.bool b), (8, V.int i64 tf)] 0), (1, Ob.var [V.int i64 n21]), (2, Ob.var [V.ref 6 0 0 0]), (3, Ob.var [V.int i64 n22]), (4, Ob.var [V.ref 6 0 0 0]), (5, Ob.var [V.own 10]), (6, Ob.var [V.int i64 n23, V.int i64 n24, V.int i64 n25, V.int i64 n26, V.int i64 n27, V.int i64 n28, V.own 11, V.own 12, V.map 13, V.bool b29]), (7, Ob.dead), (8, Ob.dead), (9, Ob.dead), (10, Ob.arr rSig l30 false), (11, Ob.arr rNote l31 false), (12, Ob.arr rB l32 false), (13, Ob.map rK2 true rI false e33)], nx := 14 }
def f58aFs2 (n34 : Int) (l31 : List Nt) (n35 n : Int) (b : Bool) (tf n5 n6 n7 n8 n9 n10 : Int) (l12 : List Nt) (l13 : List Bool) (e14 : Cn) (b11 : Bool) (n36 n37 n38 n39 n40 n41 n42 n43 : Int) (b44 : Bool) (l45 : List Nt) (l46 : List Sg) (l47 : List Bool) (e48 : Cn) : St := { fr := [(0, V.yld 0), (1, V.ref 1 0 0 0), (2, V.ref 2 0 0 0), (3, V.ref 3 0 0 0), (5, V.int i64 n34), (12, V.own 10), (13, V.int i64 (↑l31.length : Int)), (14, V.int i64 n35)], hp := [(0, Ob.loop 39010 [(1, V.int i64 n), (2, V.ref 4 0 0 0), (4, V.nilsl), (5, V.ref 5 0 0 0), (7, V.bool b), (8, V.int i64 tf)] 0), (1, Ob.var [V.int i64 n36]), (2, Ob.var [V.ref 6 0 0 0]), (3, Ob.var [V.int i64 n37]), (4, Ob.var [V.ref 6 0 0 0]), (5, Ob.var [V.own 11]), (6, Ob.var [V.int i64 n38, V.int i64 n39, V.int i64 n40, V.int i64 n41, V.int i64 n42, V.int i64 n43, V.own 10, V.own 12, V.map 13, V.bool b44]), (7, Ob.dead), (8, Ob.dead), (9, Ob.dead), (10, Ob.arr rNote l45 false), (11, Ob.arr rSig l46 false), (12, Ob.arr rB l47 false), (13, Ob.map rK2 true rI false e48)], nx := 14 }
theorem f58aF_go (p : PS) (n tf to fr0 : Int) (b : Bool) :
 vseg (E26 8) f58aFcuts 10 J (vend (E26 8) 10 (fb Tryd.f58).1.results.toList false kk) 100000 true [.code (fb Tryd.f58).2] (start ([V.yld (0 : Nat), V.ref (1 : Nat) (0 : Nat) (0 : Nat) (0 : Nat), V.ref (2 : Nat) (0 : Nat) (0 : Nat) (0 : Nat), V.ref (3 : Nat) (0 : Nat) (0 : Nat) (0 : Nat)]) ([Ob.loop (39010 : Nat) [((1 : Nat), V.int i64 n), ((2 : Nat), V.ref (4 : Nat) (0 : Nat) (0 : Nat) (0 : Nat)), ((4 : Nat), V.nilsl), ((5 : Nat), V.ref (5 : Nat) (0 : Nat) (0 : Nat) (0 : Nat)), ((7 : Nat), V.bool b), ((8 : Nat), V.int i64 tf)] (0 : Nat), Ob.var [V.int i64 to], Ob.var [V.ref (6 : Nat) (0 : Nat) (0 : Nat) (0 : Nat)], Ob.var [V.int i64 fr0], Ob.var [V.ref (6 : Nat) (0 : Nat) (0 : Nat) (0 : Nat)], Ob.var [V.nilsl], Ob.var [V.int i64 p.place, V.int i64 p.left, V.int i64 p.num, V.int i64 p.den, V.int i64 p.from_, V.int i64 p.to_, V.own (7 : Nat), V.own (8 : Nat), V.map (9 : Nat), V.bool p.on], Ob.arr rNote p.notes false, Ob.arr rB p.down false, Ob.map rK2 true rI false p.cnt])) =
 J f58aFt2 (f58aFs0 (to) p (0 : Int) n b (tf) (to) (fr0) (p.place) (p.left) (p.num) (p.den) (p.from_) (p.to_) (p.on) (p.notes) (p.down) (p.cnt)) := by kernel_rfl
theorem f58aF_0 (n1 : Int) (p : PS) (n2 n : Int) (b : Bool) (tf n3 n4 n5 n6 n7 n8 n9 n10 : Int) (b11 : Bool) (l12 : List Nt) (l13 : List Bool) (e14 : Cn) :
 vseg (E26 8) f58aFcuts 10 J (vend (E26 8) 10 (fb Tryd.f58).1.results.toList false kk) 100000 true f58aFt2 (f58aFs0 n1 p n2 n b tf n3 n4 n5 n6 n7 n8 n9 n10 b11 l12 l13 e14) =
 (bif decide (n2 < (↑p.notes.length : Int)) then
 (match idx l12 n2 with
 | some _ => (match l12[n2.toNat]? with
 | some y16 => (bif decide (n4 ≤ y16.snd.snd.snd.snd.fst) then
 (match idx l13 n2 with
 | some _ => (match l13[n2.toNat]? with
 | some y18 => (bif y18 then
 (bif decide (n4 ≤ y16.snd.snd.snd.snd.snd.fst) then
 J f58aFt2 (f58aFs0 (if y16.snd.snd.snd.snd.snd.fst < if y16.snd.snd.snd.snd.fst < n1 then y16.snd.snd.snd.snd.fst else n1 then y16.snd.snd.snd.snd.snd.fst else if y16.snd.snd.snd.snd.fst < n1 then y16.snd.snd.snd.snd.fst else n1) p (i64.wrap (n2 + 1)) n b (tf) n3 n4 n5 n6 n7 n8 n9 n10 b11 l12 l13 e14)
 else J f58aFt2 (f58aFs0 (if y16.snd.snd.snd.snd.fst < n1 then y16.snd.snd.snd.snd.fst else n1) p (i64.wrap (n2 + 1)) n b (tf) n3 n4 n5 n6 n7 n8 n9 n10 b11 l12 l13 e14))
 else J f58aFt2 (f58aFs0 (if y16.snd.snd.snd.snd.fst < n1 then y16.snd.snd.snd.snd.fst else n1) p (i64.wrap (n2 + 1)) n b (tf) n3 n4 n5 n6 n7 n8 n9 n10 b11 l12 l13 e14))
 | none => none)
 | none => none)
 else (match idx l13 n2 with
 | some _ => (match l13[n2.toNat]? with
 | some y20 => (bif y20 then
 (bif decide (n4 ≤ y16.snd.snd.snd.snd.snd.fst) then
 J f58aFt2 (f58aFs0 (if y16.snd.snd.snd.snd.snd.fst < n1 then y16.snd.snd.snd.snd.snd.fst else n1) p (i64.wrap (n2 + 1)) n b (tf) n3 n4 n5 n6 n7 n8 n9 n10 b11 l12 l13 e14)
 else J f58aFt2 (f58aFs0 n1 p (i64.wrap (n2 + 1)) n b (tf) n3 n4 n5 n6 n7 n8 n9 n10 b11 l12 l13 e14))
 else J f58aFt2 (f58aFs0 n1 p (i64.wrap (n2 + 1)) n b (tf) n3 n4 n5 n6 n7 n8 n9 n10 b11 l12 l13 e14))
 | none => none)
 | none => none))
 | none => none)
 | none => none)
 else (bif decide (n3 ≤ n1) then
 kk (V.tuple []) ([Ob.loop 39010 [(1, V.int i64 n), (2, V.ref 4 0 0 0), (4, V.nilsl), (5, V.ref 5 0 0 0), (7, V.bool b), (8, V.int i64 tf)] 0, Ob.var [V.int i64 n3], Ob.var [V.ref 6 0 0 0], Ob.var [V.int i64 n4], Ob.var [V.ref 6 0 0 0], Ob.var [V.nilsl], Ob.var [V.int i64 n5, V.int i64 n6, V.int i64 n7, V.int i64 n8, V.int i64 n9, V.int i64 n10, V.own 7, V.own 8, V.map 9, V.bool b11], Ob.arr rNote l12 false, Ob.arr rB l13 false, Ob.map rK2 true rI false e14])
 else (bif okR l12 l13 (0 : Nat) then
 J f58aFt0 (f58aFs1 n b (tf) n5 n6 n7 n8 n9 n10 l12 l13 e14 b11 n3 (i64.wrap (n1 + 1)) n5 n6 n7 n8 n9 n10 b11 ((sigsF n1 l12 l13 e14).snd.snd) l12 ((sigsF n1 l12 l13 e14).fst) ((sigsF n1 l12 l13 e14).snd.fst))
 else none))) := by kernel_rfl
theorem f58aF_1 (n : Int) (b : Bool) (tf n5 n6 n7 n8 n9 n10 : Int) (l12 : List Nt) (l13 : List Bool) (e14 : Cn) (b11 : Bool) (n21 n22 n23 n24 n25 n26 n27 n28 : Int) (b29 : Bool) (l30 : List Sg) (l31 : List Nt) (l32 : List Bool) (e33 : Cn) :
 vseg (E26 8) f58aFcuts 10 J (vend (E26 8) 10 (fb Tryd.f58).1.results.toList false kk) 100000 true f58aFt0 (f58aFs1 n b tf n5 n6 n7 n8 n9 n10 l12 l13 e14 b11 n21 n22 n23 n24 n25 n26 n27 n28 b29 l30 l31 l32 e33) =
 J f58aFt2 (f58aFs2 n21 l31 (0 : Int) n b (tf) n5 n6 n7 n8 n9 n10 l12 l13 e14 b11 n21 n22 n23 n24 n25 n26 n27 n28 b29 l31 l30 l32 e33) := by kernel_rfl
theorem f58aF_2 (n34 : Int) (l31 : List Nt) (n35 n : Int) (b : Bool) (tf n5 n6 n7 n8 n9 n10 : Int) (l12 : List Nt) (l13 : List Bool) (e14 : Cn) (b11 : Bool) (n36 n37 n38 n39 n40 n41 n42 n43 : Int) (b44 : Bool) (l45 : List Nt) (l46 : List Sg) (l47 : List Bool) (e48 : Cn) :
 vseg (E26 8) f58aFcuts 10 J (vend (E26 8) 10 (fb Tryd.f58).1.results.toList false kk) 100000 true f58aFt2 (f58aFs2 n34 l31 n35 n b tf n5 n6 n7 n8 n9 n10 l12 l13 e14 b11 n36 n37 n38 n39 n40 n41 n42 n43 b44 l45 l46 l47 e48) =
 (bif decide (n35 < (↑l31.length : Int)) then
 (match idx l45 n35 with
 | some _ => (match l45[n35.toNat]? with
 | some y50 => (bif decide (n37 ≤ y50.snd.snd.snd.snd.fst) then
 (match idx l47 n35 with
 | some _ => (match l47[n35.toNat]? with
 | some y52 => (bif y52 then
 (bif decide (n37 ≤ y50.snd.snd.snd.snd.snd.fst) then
 J f58aFt2 (f58aFs2 (if y50.snd.snd.snd.snd.snd.fst < if y50.snd.snd.snd.snd.fst < n34 then y50.snd.snd.snd.snd.fst else n34 then y50.snd.snd.snd.snd.snd.fst else if y50.snd.snd.snd.snd.fst < n34 then y50.snd.snd.snd.snd.fst else n34) l31 (i64.wrap (n35 + 1)) n b (tf) n5 n6 n7 n8 n9 n10 l12 l13 e14 b11 n36 n37 n38 n39 n40 n41 n42 n43 b44 l45 l46 l47 e48)
 else J f58aFt2 (f58aFs2 (if y50.snd.snd.snd.snd.fst < n34 then y50.snd.snd.snd.snd.fst else n34) l31 (i64.wrap (n35 + 1)) n b (tf) n5 n6 n7 n8 n9 n10 l12 l13 e14 b11 n36 n37 n38 n39 n40 n41 n42 n43 b44 l45 l46 l47 e48))
 else J f58aFt2 (f58aFs2 (if y50.snd.snd.snd.snd.fst < n34 then y50.snd.snd.snd.snd.fst else n34) l31 (i64.wrap (n35 + 1)) n b (tf) n5 n6 n7 n8 n9 n10 l12 l13 e14 b11 n36 n37 n38 n39 n40 n41 n42 n43 b44 l45 l46 l47 e48))
 | none => none)
 | none => none)
 else (match idx l47 n35 with
 | some _ => (match l47[n35.toNat]? with
 | some y54 => (bif y54 then
 (bif decide (n37 ≤ y50.snd.snd.snd.snd.snd.fst) then
 J f58aFt2 (f58aFs2 (if y50.snd.snd.snd.snd.snd.fst < n34 then y50.snd.snd.snd.snd.snd.fst else n34) l31 (i64.wrap (n35 + 1)) n b (tf) n5 n6 n7 n8 n9 n10 l12 l13 e14 b11 n36 n37 n38 n39 n40 n41 n42 n43 b44 l45 l46 l47 e48)
 else J f58aFt2 (f58aFs2 n34 l31 (i64.wrap (n35 + 1)) n b (tf) n5 n6 n7 n8 n9 n10 l12 l13 e14 b11 n36 n37 n38 n39 n40 n41 n42 n43 b44 l45 l46 l47 e48))
 else J f58aFt2 (f58aFs2 n34 l31 (i64.wrap (n35 + 1)) n b (tf) n5 n6 n7 n8 n9 n10 l12 l13 e14 b11 n36 n37 n38 n39 n40 n41 n42 n43 b44 l45 l46 l47 e48))
 | none => none)
 | none => none))
 | none => none)
 | none => none)
 else (bif decide (n36 ≤ n34) then
 kk (V.tuple []) ([Ob.loop 39010 [(1, V.int i64 n), (2, V.ref 4 0 0 0), (4, V.nilsl), (5, V.ref 5 0 0 0), (7, V.bool b), (8, V.int i64 tf)] 0, Ob.var [V.int i64 n36], Ob.var [V.ref 6 0 0 0], Ob.var [V.int i64 n37], Ob.var [V.ref 6 0 0 0], Ob.var [V.own 10], Ob.var [V.int i64 n38, V.int i64 n39, V.int i64 n40, V.int i64 n41, V.int i64 n42, V.int i64 n43, V.own 11, V.own 12, V.map 13, V.bool b44], Ob.dead, Ob.dead, Ob.dead, Ob.arr rSig l46 false, Ob.arr rNote l45 false, Ob.arr rB l47 false, Ob.map rK2 true rI false e48])
 else (bif okR l45 l47 l46.length then
 J f58aFt0 (f58aFs1 n b (tf) n5 n6 n7 n8 n9 n10 l12 l13 e14 b11 n36 (i64.wrap (n34 + 1)) n38 n39 n40 n41 n42 n43 b44 (l46 ++ (sigsF n34 l45 l47 e48).snd.snd) l45 ((sigsF n34 l45 l47 e48).fst) ((sigsF n34 l45 l47 e48).snd.fst))
 else none))) := by kernel_rfl
noncomputable abbrev f58bFcuts : Cuts := look [(0, [0, 1, 2, 3]), (2, [0, 1, 2, 3, 5, 12, 13, 14])]
noncomputable abbrev f58bFt0 : List Item := itemsAt (fb Tryd.f58).2 0
noncomputable abbrev f58bFt2 : List Item := itemsAt (fb Tryd.f58).2 2
def f58bFs0 (n1 : Int) (p : PS) (n2 n : Int) (b : Bool) (tf n3 n4 n5 n6 n7 n8 n9 n10 : Int) (b11 : Bool) (l12 : List Sg) (l13 : List Nt) (l14 : List Bool) (e15 : Cn) : St := { fr := [(0, V.yld 0), (1, V.ref 1 0 0 0), (2, V.ref 2 0 0 0), (3, V.ref 3 0 0 0), (5, V.int i64 n1), (12, V.own 8), (13, V.int i64 (↑p.notes.length : Int)), (14, V.int i64 n2)], hp := [(0, Ob.loop 39010 [(1, V.int i64 n), (2, V.ref 4 0 0 0), (4, V.nilsl), (5, V.ref 5 0 0 0), (7, V.bool b), (8, V.int i64 tf)] 0), (1, Ob.var [V.int i64 n3]), (2, Ob.var [V.ref 6 0 0 0]), (3, Ob.var [V.int i64 n4]), (4, Ob.var [V.ref 6 0 0 0]), (5, Ob.var [V.own 7]), (6, Ob.var [V.int i64 n5, V.int i64 n6, V.int i64 n7, V.int i64 n8, V.int i64 n9, V.int i64 n10, V.own 8, V.own 9, V.map 10, V.bool b11]), (7, Ob.arr rSig l12 false), (8, Ob.arr rNote l13 false), (9, Ob.arr rB l14 false), (10, Ob.map rK2 true rI false e15)], nx := 11 }
def f58bFs1 (n : Int) (b : Bool) (tf : Int) (l12 : List Sg) (n5 n6 n7 n8 n9 n10 : Int) (l13 : List Nt) (l14 : List Bool) (e15 : Cn) (b11 : Bool) (n22 n23 n24 n25 n26 n27 n28 n29 : Int) (b30 : Bool) (l31 : List Sg) (l32 : List Nt) (l33 : List Bool) (e34 : Cn) : St := { fr := [(0, V.yld 0), (1, V.ref 1 0 0 0), (2, V.ref 2 0 0 0), (3, V.ref 3 0 0 0)], hp := [(0, Ob.loop 39010 [(1, V.int i64 n), (2, V.ref 4 0 0 0), (4, V.nilsl), (5, V.ref 5 0 0 0), (7, V.bool b), (8, V.int i64 tf)] 0), (1, Ob.var [V.int i64 n22]), (2, Ob.var [V.ref 6 0 0 0]), (3, Ob.var [V.int i64 n23]), (4, Ob.var [V.ref 6 0 0 0]), (5, Ob.var [V.own 11]), (6, Ob.var [V.int i64 n24, V.int i64 n25, V.int i64 n26, V.int i64 n27, V.int i64 n28, V.int i64 n29, V.own 12, V.own 13, V.map 14, V.bool b30]), (7, Ob.dead), (8, Ob.dead), (9, Ob.dead), (10, Ob.dead), (11, Ob.arr rSig l31 false), (12, Ob.arr rNote l32 false), (13, Ob.arr rB l33 false), (14, Ob.map rK2 true rI false e34)], nx := 15 }
def f58bFs2 (n35 : Int) (l32 : List Nt) (n36 n : Int) (b : Bool) (tf : Int) (l12 : List Sg) (n5 n6 n7 n8 n9 n10 : Int) (l13 : List Nt) (l14 : List Bool) (e15 : Cn) (b11 : Bool) (n37 n38 n39 n40 n41 n42 n43 n44 : Int) (b45 : Bool) (l46 : List Nt) (l47 : List Sg) (l48 : List Bool) (e49 : Cn) : St := { fr := [(0, V.yld 0), (1, V.ref 1 0 0 0), (2, V.ref 2 0 0 0), (3, V.ref 3 0 0 0), (5, V.int i64 n35), (12, V.own 11), (13, V.int i64 (↑l32.length : Int)), (14, V.int i64 n36)], hp := [(0, Ob.loop 39010 [(1, V.int i64 n), (2, V.ref 4 0 0 0), (4, V.nilsl), (5, V.ref 5 0 0 0), (7, V.bool b), (8, V.int i64 tf)] 0), (1, Ob.var [V.int i64 n37]), (2, Ob.var [V.ref 6 0 0 0]), (3, Ob.var [V.int i64 n38]), (4, Ob.var [V.ref 6 0 0 0]), (5, Ob.var [V.own 12]), (6, Ob.var [V.int i64 n39, V.int i64 n40, V.int i64 n41, V.int i64 n42, V.int i64 n43, V.int i64 n44, V.own 11, V.own 13, V.map 14, V.bool b45]), (7, Ob.dead), (8, Ob.dead), (9, Ob.dead), (10, Ob.dead), (11, Ob.arr rNote l46 false), (12, Ob.arr rSig l47 false), (13, Ob.arr rB l48 false), (14, Ob.map rK2 true rI false e49)], nx := 15 }
theorem f58bF_go (p : PS) (n tf to fr0 : Int) (b : Bool) (l : List Sg) :
 vseg (E26 8) f58bFcuts 11 J (vend (E26 8) 11 (fb Tryd.f58).1.results.toList false kk) 100000 true [.code (fb Tryd.f58).2] (start ([V.yld (0 : Nat), V.ref (1 : Nat) (0 : Nat) (0 : Nat) (0 : Nat), V.ref (2 : Nat) (0 : Nat) (0 : Nat) (0 : Nat), V.ref (3 : Nat) (0 : Nat) (0 : Nat) (0 : Nat)]) ([Ob.loop (39010 : Nat) [((1 : Nat), V.int i64 n), ((2 : Nat), V.ref (4 : Nat) (0 : Nat) (0 : Nat) (0 : Nat)), ((4 : Nat), V.nilsl), ((5 : Nat), V.ref (5 : Nat) (0 : Nat) (0 : Nat) (0 : Nat)), ((7 : Nat), V.bool b), ((8 : Nat), V.int i64 tf)] (0 : Nat), Ob.var [V.int i64 to], Ob.var [V.ref (6 : Nat) (0 : Nat) (0 : Nat) (0 : Nat)], Ob.var [V.int i64 fr0], Ob.var [V.ref (6 : Nat) (0 : Nat) (0 : Nat) (0 : Nat)], Ob.var [V.own (7 : Nat)], Ob.var [V.int i64 p.place, V.int i64 p.left, V.int i64 p.num, V.int i64 p.den, V.int i64 p.from_, V.int i64 p.to_, V.own (8 : Nat), V.own (9 : Nat), V.map (10 : Nat), V.bool p.on], Ob.arr rSig l false, Ob.arr rNote p.notes false, Ob.arr rB p.down false, Ob.map rK2 true rI false p.cnt])) =
 J f58bFt2 (f58bFs0 (to) p (0 : Int) n b (tf) (to) (fr0) (p.place) (p.left) (p.num) (p.den) (p.from_) (p.to_) (p.on) l (p.notes) (p.down) (p.cnt)) := by kernel_rfl
theorem f58bF_0 (n1 : Int) (p : PS) (n2 n : Int) (b : Bool) (tf n3 n4 n5 n6 n7 n8 n9 n10 : Int) (b11 : Bool) (l12 : List Sg) (l13 : List Nt) (l14 : List Bool) (e15 : Cn) :
 vseg (E26 8) f58bFcuts 11 J (vend (E26 8) 11 (fb Tryd.f58).1.results.toList false kk) 100000 true f58bFt2 (f58bFs0 n1 p n2 n b tf n3 n4 n5 n6 n7 n8 n9 n10 b11 l12 l13 l14 e15) =
 (bif decide (n2 < (↑p.notes.length : Int)) then
 (match idx l13 n2 with
 | some _ => (match l13[n2.toNat]? with
 | some y17 => (bif decide (n4 ≤ y17.snd.snd.snd.snd.fst) then
 (match idx l14 n2 with
 | some _ => (match l14[n2.toNat]? with
 | some y19 => (bif y19 then
 (bif decide (n4 ≤ y17.snd.snd.snd.snd.snd.fst) then
 J f58bFt2 (f58bFs0 (if y17.snd.snd.snd.snd.snd.fst < if y17.snd.snd.snd.snd.fst < n1 then y17.snd.snd.snd.snd.fst else n1 then y17.snd.snd.snd.snd.snd.fst else if y17.snd.snd.snd.snd.fst < n1 then y17.snd.snd.snd.snd.fst else n1) p (i64.wrap (n2 + 1)) n b (tf) n3 n4 n5 n6 n7 n8 n9 n10 b11 l12 l13 l14 e15)
 else J f58bFt2 (f58bFs0 (if y17.snd.snd.snd.snd.fst < n1 then y17.snd.snd.snd.snd.fst else n1) p (i64.wrap (n2 + 1)) n b (tf) n3 n4 n5 n6 n7 n8 n9 n10 b11 l12 l13 l14 e15))
 else J f58bFt2 (f58bFs0 (if y17.snd.snd.snd.snd.fst < n1 then y17.snd.snd.snd.snd.fst else n1) p (i64.wrap (n2 + 1)) n b (tf) n3 n4 n5 n6 n7 n8 n9 n10 b11 l12 l13 l14 e15))
 | none => none)
 | none => none)
 else (match idx l14 n2 with
 | some _ => (match l14[n2.toNat]? with
 | some y21 => (bif y21 then
 (bif decide (n4 ≤ y17.snd.snd.snd.snd.snd.fst) then
 J f58bFt2 (f58bFs0 (if y17.snd.snd.snd.snd.snd.fst < n1 then y17.snd.snd.snd.snd.snd.fst else n1) p (i64.wrap (n2 + 1)) n b (tf) n3 n4 n5 n6 n7 n8 n9 n10 b11 l12 l13 l14 e15)
 else J f58bFt2 (f58bFs0 n1 p (i64.wrap (n2 + 1)) n b (tf) n3 n4 n5 n6 n7 n8 n9 n10 b11 l12 l13 l14 e15))
 else J f58bFt2 (f58bFs0 n1 p (i64.wrap (n2 + 1)) n b (tf) n3 n4 n5 n6 n7 n8 n9 n10 b11 l12 l13 l14 e15))
 | none => none)
 | none => none))
 | none => none)
 | none => none)
 else (bif decide (n3 ≤ n1) then
 kk (V.tuple []) ([Ob.loop 39010 [(1, V.int i64 n), (2, V.ref 4 0 0 0), (4, V.nilsl), (5, V.ref 5 0 0 0), (7, V.bool b), (8, V.int i64 tf)] 0, Ob.var [V.int i64 n3], Ob.var [V.ref 6 0 0 0], Ob.var [V.int i64 n4], Ob.var [V.ref 6 0 0 0], Ob.var [V.own 7], Ob.var [V.int i64 n5, V.int i64 n6, V.int i64 n7, V.int i64 n8, V.int i64 n9, V.int i64 n10, V.own 8, V.own 9, V.map 10, V.bool b11], Ob.arr rSig l12 false, Ob.arr rNote l13 false, Ob.arr rB l14 false, Ob.map rK2 true rI false e15])
 else (bif okR l13 l14 l12.length then
 J f58bFt0 (f58bFs1 n b (tf) l12 n5 n6 n7 n8 n9 n10 l13 l14 e15 b11 n3 (i64.wrap (n1 + 1)) n5 n6 n7 n8 n9 n10 b11 (l12 ++ (sigsF n1 l13 l14 e15).snd.snd) l13 ((sigsF n1 l13 l14 e15).fst) ((sigsF n1 l13 l14 e15).snd.fst))
 else none))) := by kernel_rfl
theorem f58bF_1 (n : Int) (b : Bool) (tf : Int) (l12 : List Sg) (n5 n6 n7 n8 n9 n10 : Int) (l13 : List Nt) (l14 : List Bool) (e15 : Cn) (b11 : Bool) (n22 n23 n24 n25 n26 n27 n28 n29 : Int) (b30 : Bool) (l31 : List Sg) (l32 : List Nt) (l33 : List Bool) (e34 : Cn) :
 vseg (E26 8) f58bFcuts 11 J (vend (E26 8) 11 (fb Tryd.f58).1.results.toList false kk) 100000 true f58bFt0 (f58bFs1 n b tf l12 n5 n6 n7 n8 n9 n10 l13 l14 e15 b11 n22 n23 n24 n25 n26 n27 n28 n29 b30 l31 l32 l33 e34) =
 J f58bFt2 (f58bFs2 n22 l32 (0 : Int) n b (tf) l12 n5 n6 n7 n8 n9 n10 l13 l14 e15 b11 n22 n23 n24 n25 n26 n27 n28 n29 b30 l32 l31 l33 e34) := by kernel_rfl
theorem f58bF_2 (n35 : Int) (l32 : List Nt) (n36 n : Int) (b : Bool) (tf : Int) (l12 : List Sg) (n5 n6 n7 n8 n9 n10 : Int) (l13 : List Nt) (l14 : List Bool) (e15 : Cn) (b11 : Bool) (n37 n38 n39 n40 n41 n42 n43 n44 : Int) (b45 : Bool) (l46 : List Nt) (l47 : List Sg) (l48 : List Bool) (e49 : Cn) :
 vseg (E26 8) f58bFcuts 11 J (vend (E26 8) 11 (fb Tryd.f58).1.results.toList false kk) 100000 true f58bFt2 (f58bFs2 n35 l32 n36 n b tf l12 n5 n6 n7 n8 n9 n10 l13 l14 e15 b11 n37 n38 n39 n40 n41 n42 n43 n44 b45 l46 l47 l48 e49) =
 (bif decide (n36 < (↑l32.length : Int)) then
 (match idx l46 n36 with
 | some _ => (match l46[n36.toNat]? with
 | some y51 => (bif decide (n38 ≤ y51.snd.snd.snd.snd.fst) then
 (match idx l48 n36 with
 | some _ => (match l48[n36.toNat]? with
 | some y53 => (bif y53 then
 (bif decide (n38 ≤ y51.snd.snd.snd.snd.snd.fst) then
 J f58bFt2 (f58bFs2 (if y51.snd.snd.snd.snd.snd.fst < if y51.snd.snd.snd.snd.fst < n35 then y51.snd.snd.snd.snd.fst else n35 then y51.snd.snd.snd.snd.snd.fst else if y51.snd.snd.snd.snd.fst < n35 then y51.snd.snd.snd.snd.fst else n35) l32 (i64.wrap (n36 + 1)) n b (tf) l12 n5 n6 n7 n8 n9 n10 l13 l14 e15 b11 n37 n38 n39 n40 n41 n42 n43 n44 b45 l46 l47 l48 e49)
 else J f58bFt2 (f58bFs2 (if y51.snd.snd.snd.snd.fst < n35 then y51.snd.snd.snd.snd.fst else n35) l32 (i64.wrap (n36 + 1)) n b (tf) l12 n5 n6 n7 n8 n9 n10 l13 l14 e15 b11 n37 n38 n39 n40 n41 n42 n43 n44 b45 l46 l47 l48 e49))
 else J f58bFt2 (f58bFs2 (if y51.snd.snd.snd.snd.fst < n35 then y51.snd.snd.snd.snd.fst else n35) l32 (i64.wrap (n36 + 1)) n b (tf) l12 n5 n6 n7 n8 n9 n10 l13 l14 e15 b11 n37 n38 n39 n40 n41 n42 n43 n44 b45 l46 l47 l48 e49))
 | none => none)
 | none => none)
 else (match idx l48 n36 with
 | some _ => (match l48[n36.toNat]? with
 | some y55 => (bif y55 then
 (bif decide (n38 ≤ y51.snd.snd.snd.snd.snd.fst) then
 J f58bFt2 (f58bFs2 (if y51.snd.snd.snd.snd.snd.fst < n35 then y51.snd.snd.snd.snd.snd.fst else n35) l32 (i64.wrap (n36 + 1)) n b (tf) l12 n5 n6 n7 n8 n9 n10 l13 l14 e15 b11 n37 n38 n39 n40 n41 n42 n43 n44 b45 l46 l47 l48 e49)
 else J f58bFt2 (f58bFs2 n35 l32 (i64.wrap (n36 + 1)) n b (tf) l12 n5 n6 n7 n8 n9 n10 l13 l14 e15 b11 n37 n38 n39 n40 n41 n42 n43 n44 b45 l46 l47 l48 e49))
 else J f58bFt2 (f58bFs2 n35 l32 (i64.wrap (n36 + 1)) n b (tf) l12 n5 n6 n7 n8 n9 n10 l13 l14 e15 b11 n37 n38 n39 n40 n41 n42 n43 n44 b45 l46 l47 l48 e49))
 | none => none)
 | none => none))
 | none => none)
 | none => none)
 else (bif decide (n37 ≤ n35) then
 kk (V.tuple []) ([Ob.loop 39010 [(1, V.int i64 n), (2, V.ref 4 0 0 0), (4, V.nilsl), (5, V.ref 5 0 0 0), (7, V.bool b), (8, V.int i64 tf)] 0, Ob.var [V.int i64 n37], Ob.var [V.ref 6 0 0 0], Ob.var [V.int i64 n38], Ob.var [V.ref 6 0 0 0], Ob.var [V.own 11], Ob.var [V.int i64 n39, V.int i64 n40, V.int i64 n41, V.int i64 n42, V.int i64 n43, V.int i64 n44, V.own 12, V.own 13, V.map 14, V.bool b45], Ob.dead, Ob.dead, Ob.dead, Ob.dead, Ob.arr rSig l47 false, Ob.arr rNote l46 false, Ob.arr rB l48 false, Ob.map rK2 true rI false e49])
 else (bif okR l46 l48 l47.length then
 J f58bFt0 (f58bFs1 n b (tf) l12 n5 n6 n7 n8 n9 n10 l13 l14 e15 b11 n37 (i64.wrap (n35 + 1)) n39 n40 n41 n42 n43 n44 b45 (l47 ++ (sigsF n35 l46 l48 e49).snd.snd) l46 ((sigsF n35 l46 l48 e49).fst) ((sigsF n35 l46 l48 e49).snd.fst))
 else none))) := by kernel_rfl
end Vm.S14
open Go Go.Proofs
namespace Vm.S14
theorem idx_off {α : Type} {l : List α} {i : Nat} {x : α} (h : l[i]? = some x) : l.drop i = x :: l.drop (i + 1) := by
 obtain ⟨h1, h2⟩ := List.getElem?_eq_some_iff.1 h
 rw [List.drop_eq_getElem_cons h1, h2]
section
variable {R : Type} (kk : V → List Ob → Option R) (p : PS)
noncomputable abbrev V58a (k : Nat) (t : List Item) (s : St) : Option R := vrun (E26 8) f58aFcuts 10 100000 (vend (E26 8) 10 (fb Tryd.f58).1.results.toList false kk) k t s
noncomputable abbrev V58b (k : Nat) (t : List Item) (s : St) : Option R := vrun (E26 8) f58bFcuts 11 100000 (vend (E26 8) 11 (fb Tryd.f58).1.results.toList false kk) k t s
theorem f58a0 (n : Int) (b : Bool) (tf to fr : Int) (d : List Bool) (c : Cn)  (hb : p.notes.length < 1000000) (hd : d.length = p.notes.length) (M : Nat) : ∀ (k i : Nat) (cur : Int), i + k = p.notes.length →
  V58a kk (M + k) f58aFt2 (f58aFs0 cur p i n b tf to fr p.place p.left p.num p.den p.from_ p.to_ p.on p.notes d c) = V58a kk M f58aFt2 (f58aFs0 (nextL fr (p.notes.drop i) (d.drop i) cur) p p.notes.length n b tf to fr p.place p.left p.num p.den p.from_ p.to_ p.on p.notes d c) := by
 intro k
 induction k with
 | zero =>
   intro i cur hi
   have e : i = p.notes.length := by omega
   subst e
   rw [List.drop_of_length_le (Nat.le_refl _)]
   rfl
 | succ k ih =>
   intro i cur hi
   have h1 : i < p.notes.length := by omega
   obtain ⟨y, hy⟩ : ∃ y, p.notes[i]? = some y := ⟨_, List.getElem?_eq_getElem h1⟩
   obtain ⟨w, hw⟩ : ∃ w, d[i]? = some w := ⟨_, List.getElem?_eq_getElem (show i < d.length by omega)⟩
   have hwr : IntKind.i64.wrap ((i : Int) + 1) = ((i + 1 : Nat) : Int) := wrap_succ (by omega)
   rw [idx_off hy, idx_off hw]
   have key : V58a kk (M + (k + 1)) f58aFt2 (f58aFs0 cur p i n b tf to fr p.place p.left p.num p.den p.from_ p.to_ p.on p.notes d c) = V58a kk (M + k) f58aFt2 (f58aFs0 (nextStep fr y w cur) p ((i + 1 : Nat) : Int) n b tf to fr p.place p.left p.num p.den p.from_ p.to_ p.on p.notes d c) := by
    unfold V58a
    rw [show M + (k + 1) = (M + k) + 1 by omega, vrun_succ]
    refine (f58aF_0 _ kk cur p i n b tf to fr p.place p.left p.num p.den p.from_ p.to_ p.on p.notes d c).trans ?_
    rw [bif_pos (by exact decide_eq_true (by omega)), idx_nat, hy, Int.toNat_natCast, hy]
    dsimp only
    rw [idx_nat, hw]
    dsimp only
    rw [hwr]
    by_cases c1 : fr ≤ y.on
    ·refine (bif_pos (by exact decide_eq_true c1)).trans ?_
     cases w with
     | true =>
       refine (bif_pos (by rfl)).trans ?_
       by_cases c2 : fr ≤ y.off
       ·rw [nextStep_tt c1 c2]; exact bif_pos (by exact decide_eq_true c2)
       ·rw [nextStep_tf c1 c2]; exact bif_neg (by exact decide_eq_false c2)
     | false => rw [nextStep_ut c1]; rfl
    ·refine (bif_neg (by exact decide_eq_false c1)).trans ?_
     cases w with
     | true =>
       refine (bif_pos (by rfl)).trans ?_
       by_cases c2 : fr ≤ y.off
       ·rw [nextStep_ft c1 c2]; exact bif_pos (by exact decide_eq_true c2)
       ·rw [nextStep_ff c1 c2]; exact bif_neg (by exact decide_eq_false c2)
     | false => rw [nextStep_uf c1]; rfl
   refine key.trans ?_
   exact ih (i + 1) (nextStep fr y w cur) (by omega)
theorem f58a2 (n : Int) (b : Bool) (tf to fr : Int) (d : List Bool) (c : Cn) (acc : List Sg) (hb : p.notes.length < 1000000) (hd : d.length = p.notes.length) (M : Nat) : ∀ (k i : Nat) (cur : Int), i + k = p.notes.length →
  V58a kk (M + k) f58aFt2 (f58aFs2 cur p.notes i n b tf p.place p.left p.num p.den p.from_ p.to_ p.notes p.down p.cnt p.on to fr p.place p.left p.num p.den p.from_ p.to_ p.on p.notes acc d c) = V58a kk M f58aFt2 (f58aFs2 (nextL fr (p.notes.drop i) (d.drop i) cur) p.notes p.notes.length n b tf p.place p.left p.num p.den p.from_ p.to_ p.notes p.down p.cnt p.on to fr p.place p.left p.num p.den p.from_ p.to_ p.on p.notes acc d c) := by
 intro k
 induction k with
 | zero =>
   intro i cur hi
   have e : i = p.notes.length := by omega
   subst e
   rw [List.drop_of_length_le (Nat.le_refl _)]
   rfl
 | succ k ih =>
   intro i cur hi
   have h1 : i < p.notes.length := by omega
   obtain ⟨y, hy⟩ : ∃ y, p.notes[i]? = some y := ⟨_, List.getElem?_eq_getElem h1⟩
   obtain ⟨w, hw⟩ : ∃ w, d[i]? = some w := ⟨_, List.getElem?_eq_getElem (show i < d.length by omega)⟩
   have hwr : IntKind.i64.wrap ((i : Int) + 1) = ((i + 1 : Nat) : Int) := wrap_succ (by omega)
   rw [idx_off hy, idx_off hw]
   have key : V58a kk (M + (k + 1)) f58aFt2 (f58aFs2 cur p.notes i n b tf p.place p.left p.num p.den p.from_ p.to_ p.notes p.down p.cnt p.on to fr p.place p.left p.num p.den p.from_ p.to_ p.on p.notes acc d c) = V58a kk (M + k) f58aFt2 (f58aFs2 (nextStep fr y w cur) p.notes ((i + 1 : Nat) : Int) n b tf p.place p.left p.num p.den p.from_ p.to_ p.notes p.down p.cnt p.on to fr p.place p.left p.num p.den p.from_ p.to_ p.on p.notes acc d c) := by
    unfold V58a
    rw [show M + (k + 1) = (M + k) + 1 by omega, vrun_succ]
    refine (f58aF_2 _ kk cur p.notes i n b tf p.place p.left p.num p.den p.from_ p.to_ p.notes p.down p.cnt p.on to fr p.place p.left p.num p.den p.from_ p.to_ p.on p.notes acc d c).trans ?_
    rw [bif_pos (by exact decide_eq_true (by omega)), idx_nat, hy, Int.toNat_natCast, hy]
    dsimp only
    rw [idx_nat, hw]
    dsimp only
    rw [hwr]
    by_cases c1 : fr ≤ y.on
    ·refine (bif_pos (by exact decide_eq_true c1)).trans ?_
     cases w with
     | true =>
       refine (bif_pos (by rfl)).trans ?_
       by_cases c2 : fr ≤ y.off
       ·rw [nextStep_tt c1 c2]; exact bif_pos (by exact decide_eq_true c2)
       ·rw [nextStep_tf c1 c2]; exact bif_neg (by exact decide_eq_false c2)
     | false => rw [nextStep_ut c1]; rfl
    ·refine (bif_neg (by exact decide_eq_false c1)).trans ?_
     cases w with
     | true =>
       refine (bif_pos (by rfl)).trans ?_
       by_cases c2 : fr ≤ y.off
       ·rw [nextStep_ft c1 c2]; exact bif_pos (by exact decide_eq_true c2)
       ·rw [nextStep_ff c1 c2]; exact bif_neg (by exact decide_eq_false c2)
     | false => rw [nextStep_uf c1]; rfl
   refine key.trans ?_
   exact ih (i + 1) (nextStep fr y w cur) (by omega)
theorem f58b0 (n : Int) (b : Bool) (tf to fr : Int) (d : List Bool) (c : Cn) (acc : List Sg) (hb : p.notes.length < 1000000) (hd : d.length = p.notes.length) (M : Nat) : ∀ (k i : Nat) (cur : Int), i + k = p.notes.length →
  V58b kk (M + k) f58bFt2 (f58bFs0 cur p i n b tf to fr p.place p.left p.num p.den p.from_ p.to_ p.on acc p.notes d c) = V58b kk M f58bFt2 (f58bFs0 (nextL fr (p.notes.drop i) (d.drop i) cur) p p.notes.length n b tf to fr p.place p.left p.num p.den p.from_ p.to_ p.on acc p.notes d c) := by
 intro k
 induction k with
 | zero =>
   intro i cur hi
   have e : i = p.notes.length := by omega
   subst e
   rw [List.drop_of_length_le (Nat.le_refl _)]
   rfl
 | succ k ih =>
   intro i cur hi
   have h1 : i < p.notes.length := by omega
   obtain ⟨y, hy⟩ : ∃ y, p.notes[i]? = some y := ⟨_, List.getElem?_eq_getElem h1⟩
   obtain ⟨w, hw⟩ : ∃ w, d[i]? = some w := ⟨_, List.getElem?_eq_getElem (show i < d.length by omega)⟩
   have hwr : IntKind.i64.wrap ((i : Int) + 1) = ((i + 1 : Nat) : Int) := wrap_succ (by omega)
   rw [idx_off hy, idx_off hw]
   have key : V58b kk (M + (k + 1)) f58bFt2 (f58bFs0 cur p i n b tf to fr p.place p.left p.num p.den p.from_ p.to_ p.on acc p.notes d c) = V58b kk (M + k) f58bFt2 (f58bFs0 (nextStep fr y w cur) p ((i + 1 : Nat) : Int) n b tf to fr p.place p.left p.num p.den p.from_ p.to_ p.on acc p.notes d c) := by
    unfold V58b
    rw [show M + (k + 1) = (M + k) + 1 by omega, vrun_succ]
    refine (f58bF_0 _ kk cur p i n b tf to fr p.place p.left p.num p.den p.from_ p.to_ p.on acc p.notes d c).trans ?_
    rw [bif_pos (by exact decide_eq_true (by omega)), idx_nat, hy, Int.toNat_natCast, hy]
    dsimp only
    rw [idx_nat, hw]
    dsimp only
    rw [hwr]
    by_cases c1 : fr ≤ y.on
    ·refine (bif_pos (by exact decide_eq_true c1)).trans ?_
     cases w with
     | true =>
       refine (bif_pos (by rfl)).trans ?_
       by_cases c2 : fr ≤ y.off
       ·rw [nextStep_tt c1 c2]; exact bif_pos (by exact decide_eq_true c2)
       ·rw [nextStep_tf c1 c2]; exact bif_neg (by exact decide_eq_false c2)
     | false => rw [nextStep_ut c1]; rfl
    ·refine (bif_neg (by exact decide_eq_false c1)).trans ?_
     cases w with
     | true =>
       refine (bif_pos (by rfl)).trans ?_
       by_cases c2 : fr ≤ y.off
       ·rw [nextStep_ft c1 c2]; exact bif_pos (by exact decide_eq_true c2)
       ·rw [nextStep_ff c1 c2]; exact bif_neg (by exact decide_eq_false c2)
     | false => rw [nextStep_uf c1]; rfl
   refine key.trans ?_
   exact ih (i + 1) (nextStep fr y w cur) (by omega)
theorem f58b2 (acc0 : List Sg) (n : Int) (b : Bool) (tf to fr : Int) (d : List Bool) (c : Cn) (acc : List Sg) (hb : p.notes.length < 1000000) (hd : d.length = p.notes.length) (M : Nat) : ∀ (k i : Nat) (cur : Int), i + k = p.notes.length →
  V58b kk (M + k) f58bFt2 (f58bFs2 cur p.notes i n b tf acc0 p.place p.left p.num p.den p.from_ p.to_ p.notes p.down p.cnt p.on to fr p.place p.left p.num p.den p.from_ p.to_ p.on p.notes acc d c) = V58b kk M f58bFt2 (f58bFs2 (nextL fr (p.notes.drop i) (d.drop i) cur) p.notes p.notes.length n b tf acc0 p.place p.left p.num p.den p.from_ p.to_ p.notes p.down p.cnt p.on to fr p.place p.left p.num p.den p.from_ p.to_ p.on p.notes acc d c) := by
 intro k
 induction k with
 | zero =>
   intro i cur hi
   have e : i = p.notes.length := by omega
   subst e
   rw [List.drop_of_length_le (Nat.le_refl _)]
   rfl
 | succ k ih =>
   intro i cur hi
   have h1 : i < p.notes.length := by omega
   obtain ⟨y, hy⟩ : ∃ y, p.notes[i]? = some y := ⟨_, List.getElem?_eq_getElem h1⟩
   obtain ⟨w, hw⟩ : ∃ w, d[i]? = some w := ⟨_, List.getElem?_eq_getElem (show i < d.length by omega)⟩
   have hwr : IntKind.i64.wrap ((i : Int) + 1) = ((i + 1 : Nat) : Int) := wrap_succ (by omega)
   rw [idx_off hy, idx_off hw]
   have key : V58b kk (M + (k + 1)) f58bFt2 (f58bFs2 cur p.notes i n b tf acc0 p.place p.left p.num p.den p.from_ p.to_ p.notes p.down p.cnt p.on to fr p.place p.left p.num p.den p.from_ p.to_ p.on p.notes acc d c) = V58b kk (M + k) f58bFt2 (f58bFs2 (nextStep fr y w cur) p.notes ((i + 1 : Nat) : Int) n b tf acc0 p.place p.left p.num p.den p.from_ p.to_ p.notes p.down p.cnt p.on to fr p.place p.left p.num p.den p.from_ p.to_ p.on p.notes acc d c) := by
    unfold V58b
    rw [show M + (k + 1) = (M + k) + 1 by omega, vrun_succ]
    refine (f58bF_2 _ kk cur p.notes i n b tf acc0 p.place p.left p.num p.den p.from_ p.to_ p.notes p.down p.cnt p.on to fr p.place p.left p.num p.den p.from_ p.to_ p.on p.notes acc d c).trans ?_
    rw [bif_pos (by exact decide_eq_true (by omega)), idx_nat, hy, Int.toNat_natCast, hy]
    dsimp only
    rw [idx_nat, hw]
    dsimp only
    rw [hwr]
    by_cases c1 : fr ≤ y.on
    ·refine (bif_pos (by exact decide_eq_true c1)).trans ?_
     cases w with
     | true =>
       refine (bif_pos (by rfl)).trans ?_
       by_cases c2 : fr ≤ y.off
       ·rw [nextStep_tt c1 c2]; exact bif_pos (by exact decide_eq_true c2)
       ·rw [nextStep_tf c1 c2]; exact bif_neg (by exact decide_eq_false c2)
     | false => rw [nextStep_ut c1]; rfl
    ·refine (bif_neg (by exact decide_eq_false c1)).trans ?_
     cases w with
     | true =>
       refine (bif_pos (by rfl)).trans ?_
       by_cases c2 : fr ≤ y.off
       ·rw [nextStep_ft c1 c2]; exact bif_pos (by exact decide_eq_true c2)
       ·rw [nextStep_ff c1 c2]; exact bif_neg (by exact decide_eq_false c2)
     | false => rw [nextStep_uf c1]; rfl
   refine key.trans ?_
   exact ih (i + 1) (nextStep fr y w cur) (by omega)
abbrev tsO (n : Int) (b : Bool) (tf to fr : Int) (o : V) (pv : List V) (rest : List Ob) : List Ob := .loop 39010 (frR n b tf 4 5) 0 :: .var [.int .i64 to] :: .var [.ref 6 0 0 0] :: .var [.int .i64 fr] :: .var [.ref 6 0 0 0] :: .var [o] :: .var pv :: rest
abbrev tsA0 (n : Int) (b : Bool) (tf to fr : Int) (d : List Bool) (c : Cn) : List Ob := tsO n b tf to fr .nilsl (p.cells 7 8 9) [.arr rNote p.notes false, .arr rB d false, .map rK2 true rI false c]
abbrev tsA1 (n : Int) (b : Bool) (tf to fr : Int) (d : List Bool) (c : Cn) (acc : List Sg) : List Ob := tsO n b tf to fr (.own 10) (p.cells 11 12 13) [.dead, .dead, .dead, .arr rSig acc false, .arr rNote p.notes false, .arr rB d false, .map rK2 true rI false c]
abbrev tsB0 (n : Int) (b : Bool) (tf to fr : Int) (d : List Bool) (c : Cn) (acc : List Sg) : List Ob := tsO n b tf to fr (.own 7) (p.cells 8 9 10) [.arr rSig acc false, .arr rNote p.notes false, .arr rB d false, .map rK2 true rI false c]
abbrev tsB1 (n : Int) (b : Bool) (tf to fr : Int) (d : List Bool) (c : Cn) (acc : List Sg) : List Ob := tsO n b tf to fr (.own 11) (p.cells 12 13 14) [.dead, .dead, .dead, .dead, .arr rSig acc false, .arr rNote p.notes false, .arr rB d false, .map rK2 true rI false c]
theorem f58a_loop (n : Int) (b : Bool) (tf to : Int) (hb : p.notes.length < 1000000) (ht : to ≤ 1000000000000000000) : ∀ (k : Nat) (s : GoS), evN s.1 p.notes < k → s.2.1.length = p.notes.length → s.2.2.2.length + k * (2 * p.notes.length) ≤ 1000000000 → -1000000000000000000 ≤ s.1 →
  ∃ N, V58a kk N f58aFt2 (f58aFs2 to p.notes ((0 : Nat) : Int) n b tf p.place p.left p.num p.den p.from_ p.to_ p.notes p.down p.cnt p.on to s.1 p.place p.left p.num p.den p.from_ p.to_ p.on p.notes s.2.2.2 s.2.1 s.2.2.1) = kk (.tuple []) (tsA1 p n b tf to (goF p.notes to k s).1 (goF p.notes to k s).2.1 (goF p.notes to k s).2.2.1 (goF p.notes to k s).2.2.2) := by
 intro k
 induction k with
 | zero => intro s h; exact absurd h (Nat.not_lt_zero _)
 | succ k ih =>
   intro s hk hd ha hf
   obtain ⟨fr, d, c, acc⟩ := s
   dsimp only at hk hd ha hf ⊢
   have hl := f58a2 kk p n b tf to fr d c acc hb hd
   unfold goF
   dsimp only
   by_cases h : to ≤ nextL fr p.notes d to
   ·rw [if_pos h]
    refine ⟨1 + p.notes.length, ?_⟩
    refine (hl 1 p.notes.length 0 to (by omega)).trans ?_
    rw [List.drop_zero, List.drop_zero]
    unfold V58a
    rw [show (1 : Nat) = 0 + 1 from rfl, vrun_succ]
    refine (f58aF_2 _ kk _ p.notes p.notes.length n b tf p.place p.left p.num p.den p.from_ p.to_ p.notes p.down p.cnt p.on to fr p.place p.left p.num p.den p.from_ p.to_ p.on p.notes acc d c).trans ?_
    rw [bif_neg (by exact decide_eq_false (by omega)), bif_pos (by exact decide_eq_true h)]
    rfl
   ·rw [if_neg h]
    obtain ⟨h1, h2⟩ := nextL_spec fr p.notes d to
    obtain ⟨nx, hnx⟩ : ∃ x, nextL fr p.notes d to = x := ⟨_, rfl⟩
    rw [hnx] at h h1 h2 ⊢
    have h3 : fr ≤ nx ∧ ∃ m ∈ p.notes, m.on = nx ∨ m.off = nx := by
     rcases h2 with h2 | h2
     ·omega
     ·exact h2
    have h4 := evN_lt h3.1 h3.2
    have h5 := sigsF_len nx p.notes d c
    rw [Nat.succ_mul] at ha
    obtain ⟨N, hN⟩ := ih (nx + 1, (sigsF nx p.notes d c).1, (sigsF nx p.notes d c).2.1, acc ++ (sigsF nx p.notes d c).2.2) (by dsimp only; omega) (by dsimp only; omega) (by dsimp only; rw [List.length_append]; omega) (by dsimp only; omega)
    refine ⟨N + 1 + 1 + p.notes.length, ?_⟩
    refine (hl (N + 1 + 1) p.notes.length 0 to (by omega)).trans ?_
    rw [List.drop_zero, List.drop_zero, hnx]
    unfold V58a
    rw [vrun_succ]
    refine (f58aF_2 _ kk _ p.notes p.notes.length n b tf p.place p.left p.num p.den p.from_ p.to_ p.notes p.down p.cnt p.on to fr p.place p.left p.num p.den p.from_ p.to_ p.on p.notes acc d c).trans ?_
    rw [bif_neg (by exact decide_eq_false (by omega)), bif_neg (by exact decide_eq_false h), bif_pos (by unfold okR; rw [Bool.and_eq_true]; exact ⟨decide_eq_true ⟨hb, hd⟩, decide_eq_true (by omega)⟩), show IntKind.i64.wrap (nx + 1) = nx + 1 from w64 (by omega) (by omega), vrun_succ]
    refine (f58aF_1 _ kk _ _ _ _ _ _ _ _ _ _ _ _ _ _ _ _ _ _ _ _ _ _ _ _ _ _).trans ?_
    exact hN
theorem f58b_loop (acc0 : List Sg) (n : Int) (b : Bool) (tf to : Int) (hb : p.notes.length < 1000000) (ht : to ≤ 1000000000000000000) : ∀ (k : Nat) (s : GoS), evN s.1 p.notes < k → s.2.1.length = p.notes.length → s.2.2.2.length + k * (2 * p.notes.length) ≤ 1000000000 → -1000000000000000000 ≤ s.1 →
  ∃ N, V58b kk N f58bFt2 (f58bFs2 to p.notes ((0 : Nat) : Int) n b tf acc0 p.place p.left p.num p.den p.from_ p.to_ p.notes p.down p.cnt p.on to s.1 p.place p.left p.num p.den p.from_ p.to_ p.on p.notes s.2.2.2 s.2.1 s.2.2.1) = kk (.tuple []) (tsB1 p n b tf to (goF p.notes to k s).1 (goF p.notes to k s).2.1 (goF p.notes to k s).2.2.1 (goF p.notes to k s).2.2.2) := by
 intro k
 induction k with
 | zero => intro s h; exact absurd h (Nat.not_lt_zero _)
 | succ k ih =>
   intro s hk hd ha hf
   obtain ⟨fr, d, c, acc⟩ := s
   dsimp only at hk hd ha hf ⊢
   have hl := f58b2 kk p acc0 n b tf to fr d c acc hb hd
   unfold goF
   dsimp only
   by_cases h : to ≤ nextL fr p.notes d to
   ·rw [if_pos h]
    refine ⟨1 + p.notes.length, ?_⟩
    refine (hl 1 p.notes.length 0 to (by omega)).trans ?_
    rw [List.drop_zero, List.drop_zero]
    unfold V58b
    rw [show (1 : Nat) = 0 + 1 from rfl, vrun_succ]
    refine (f58bF_2 _ kk _ p.notes p.notes.length n b tf acc0 p.place p.left p.num p.den p.from_ p.to_ p.notes p.down p.cnt p.on to fr p.place p.left p.num p.den p.from_ p.to_ p.on p.notes acc d c).trans ?_
    rw [bif_neg (by exact decide_eq_false (by omega)), bif_pos (by exact decide_eq_true h)]
    rfl
   ·rw [if_neg h]
    obtain ⟨h1, h2⟩ := nextL_spec fr p.notes d to
    obtain ⟨nx, hnx⟩ : ∃ x, nextL fr p.notes d to = x := ⟨_, rfl⟩
    rw [hnx] at h h1 h2 ⊢
    have h3 : fr ≤ nx ∧ ∃ m ∈ p.notes, m.on = nx ∨ m.off = nx := by
     rcases h2 with h2 | h2
     ·omega
     ·exact h2
    have h4 := evN_lt h3.1 h3.2
    have h5 := sigsF_len nx p.notes d c
    rw [Nat.succ_mul] at ha
    obtain ⟨N, hN⟩ := ih (nx + 1, (sigsF nx p.notes d c).1, (sigsF nx p.notes d c).2.1, acc ++ (sigsF nx p.notes d c).2.2) (by dsimp only; omega) (by dsimp only; omega) (by dsimp only; rw [List.length_append]; omega) (by dsimp only; omega)
    refine ⟨N + 1 + 1 + p.notes.length, ?_⟩
    refine (hl (N + 1 + 1) p.notes.length 0 to (by omega)).trans ?_
    rw [List.drop_zero, List.drop_zero, hnx]
    unfold V58b
    rw [vrun_succ]
    refine (f58bF_2 _ kk _ p.notes p.notes.length n b tf acc0 p.place p.left p.num p.den p.from_ p.to_ p.notes p.down p.cnt p.on to fr p.place p.left p.num p.den p.from_ p.to_ p.on p.notes acc d c).trans ?_
    rw [bif_neg (by exact decide_eq_false (by omega)), bif_neg (by exact decide_eq_false h), bif_pos (by unfold okR; rw [Bool.and_eq_true]; exact ⟨decide_eq_true ⟨hb, hd⟩, decide_eq_true (by omega)⟩), show IntKind.i64.wrap (nx + 1) = nx + 1 from w64 (by omega) (by omega), vrun_succ]
    refine (f58bF_1 _ kk _ _ _ _ _ _ _ _ _ _ _ _ _ _ _ _ _ _ _ _ _ _ _ _ _ _ _).trans ?_
    exact hN
theorem f58a_run (n : Int) (b : Bool) (tf to fr : Int) (hb : p.notes.length < 1000000) (hd : p.down.length = p.notes.length) (ht : to ≤ 1000000000000000000) (hf : -1000000000000000000 ≤ fr) (k : Nat) (hk : evN fr p.notes < k) (ha : ([] : List Sg).length + (k + 1) * (2 * p.notes.length) ≤ 1000000000) :
  ∃ N, V58a kk N [.code (fb Tryd.f58).2] (start [.yld 0, .ref 1 0 0 0, .ref 2 0 0 0, .ref 3 0 0 0] (tsA0 p n b tf to fr p.down p.cnt)) = if to ≤ nextL fr p.notes p.down to then kk (.tuple []) (tsA0 p n b tf to fr p.down p.cnt) else kk (.tuple []) (tsA1 p n b tf to (goF p.notes to k (fr, p.down, p.cnt, [])).1 (goF p.notes to k (fr, p.down, p.cnt, [])).2.1 (goF p.notes to k (fr, p.down, p.cnt, [])).2.2.1 (goF p.notes to k (fr, p.down, p.cnt, [])).2.2.2) := by
 have hl := f58a0 kk p n b tf to fr p.down p.cnt hb hd
 by_cases h : to ≤ nextL fr p.notes p.down to
 ·rw [if_pos h]
  refine ⟨1 + p.notes.length + 1, ?_⟩
  unfold V58a
  rw [vrun_succ]
  refine (f58aF_go _ kk p n tf to fr b).trans ?_
  refine (hl 1 p.notes.length 0 to (by omega)).trans ?_
  rw [List.drop_zero, List.drop_zero]
  unfold V58a
  rw [show (1 : Nat) = 0 + 1 from rfl, vrun_succ]
  refine (f58aF_0 _ kk _ p p.notes.length n b tf to fr p.place p.left p.num p.den p.from_ p.to_ p.on p.notes p.down p.cnt).trans ?_
  rw [bif_neg (by exact decide_eq_false (by omega)), bif_pos (by exact decide_eq_true h)]
  rfl
 ·rw [if_neg h]
  obtain ⟨h1, h2⟩ := nextL_spec fr p.notes p.down to
  obtain ⟨nx, hnx⟩ : ∃ x, nextL fr p.notes p.down to = x := ⟨_, rfl⟩
  rw [hnx] at h h1 h2
  have h3 : fr ≤ nx ∧ ∃ m ∈ p.notes, m.on = nx ∨ m.off = nx := by
   rcases h2 with h2 | h2
   ·omega
   ·exact h2
  have h4 := evN_lt h3.1 h3.2
  have h5 := sigsF_len nx p.notes p.down p.cnt
  obtain ⟨k, rfl⟩ : ∃ q, k = q + 1 := ⟨k - 1, by omega⟩
  have e : goF p.notes to (k + 1) (fr, p.down, p.cnt, []) = goF p.notes to k (nx + 1, (sigsF nx p.notes p.down p.cnt).1, (sigsF nx p.notes p.down p.cnt).2.1, [] ++ (sigsF nx p.notes p.down p.cnt).2.2) := by
   conv => lhs; unfold goF
   dsimp only
   rw [hnx, if_neg h]
  rw [e]
  rw [Nat.add_mul, Nat.add_mul, Nat.one_mul] at ha
  obtain ⟨N, hN⟩ := f58a_loop kk p n b tf to hb ht k (nx + 1, (sigsF nx p.notes p.down p.cnt).1, (sigsF nx p.notes p.down p.cnt).2.1, [] ++ (sigsF nx p.notes p.down p.cnt).2.2) (by dsimp only; omega) (by dsimp only; omega) (by dsimp only; rw [List.length_append]; omega) (by dsimp only; omega)
  refine ⟨N + 1 + 1 + p.notes.length + 1, ?_⟩
  unfold V58a
  rw [vrun_succ]
  refine (f58aF_go _ kk p n tf to fr b).trans ?_
  refine (hl (N + 1 + 1) p.notes.length 0 to (by omega)).trans ?_
  rw [List.drop_zero, List.drop_zero, hnx]
  unfold V58a
  rw [vrun_succ]
  refine (f58aF_0 _ kk _ p p.notes.length n b tf to fr p.place p.left p.num p.den p.from_ p.to_ p.on p.notes p.down p.cnt).trans ?_
  rw [bif_neg (by exact decide_eq_false (by omega)), bif_neg (by exact decide_eq_false h), bif_pos (by unfold okR; rw [Bool.and_eq_true]; exact ⟨decide_eq_true ⟨hb, hd⟩, decide_eq_true (by decide)⟩), show IntKind.i64.wrap (nx + 1) = nx + 1 from w64 (by omega) (by omega), vrun_succ]
  refine (f58aF_1 _ kk _ _ _ _ _ _ _ _ _ _ _ _ _ _ _ _ _ _ _ _ _ _ _ _ _ _).trans ?_
  exact hN
theorem f58b_run (n : Int) (b : Bool) (tf to fr : Int) (l : List Sg) (hb : p.notes.length < 1000000) (hd : p.down.length = p.notes.length) (ht : to ≤ 1000000000000000000) (hf : -1000000000000000000 ≤ fr) (k : Nat) (hk : evN fr p.notes < k) (ha : (l : List Sg).length + (k + 1) * (2 * p.notes.length) ≤ 1000000000) :
  ∃ N, V58b kk N [.code (fb Tryd.f58).2] (start [.yld 0, .ref 1 0 0 0, .ref 2 0 0 0, .ref 3 0 0 0] (tsB0 p n b tf to fr p.down p.cnt l)) = if to ≤ nextL fr p.notes p.down to then kk (.tuple []) (tsB0 p n b tf to fr p.down p.cnt l) else kk (.tuple []) (tsB1 p n b tf to (goF p.notes to k (fr, p.down, p.cnt, l)).1 (goF p.notes to k (fr, p.down, p.cnt, l)).2.1 (goF p.notes to k (fr, p.down, p.cnt, l)).2.2.1 (goF p.notes to k (fr, p.down, p.cnt, l)).2.2.2) := by
 have hl := f58b0 kk p n b tf to fr p.down p.cnt l hb hd
 by_cases h : to ≤ nextL fr p.notes p.down to
 ·rw [if_pos h]
  refine ⟨1 + p.notes.length + 1, ?_⟩
  unfold V58b
  rw [vrun_succ]
  refine (f58bF_go _ kk p n tf to fr b l).trans ?_
  refine (hl 1 p.notes.length 0 to (by omega)).trans ?_
  rw [List.drop_zero, List.drop_zero]
  unfold V58b
  rw [show (1 : Nat) = 0 + 1 from rfl, vrun_succ]
  refine (f58bF_0 _ kk _ p p.notes.length n b tf to fr p.place p.left p.num p.den p.from_ p.to_ p.on l p.notes p.down p.cnt).trans ?_
  rw [bif_neg (by exact decide_eq_false (by omega)), bif_pos (by exact decide_eq_true h)]
  rfl
 ·rw [if_neg h]
  obtain ⟨h1, h2⟩ := nextL_spec fr p.notes p.down to
  obtain ⟨nx, hnx⟩ : ∃ x, nextL fr p.notes p.down to = x := ⟨_, rfl⟩
  rw [hnx] at h h1 h2
  have h3 : fr ≤ nx ∧ ∃ m ∈ p.notes, m.on = nx ∨ m.off = nx := by
   rcases h2 with h2 | h2
   ·omega
   ·exact h2
  have h4 := evN_lt h3.1 h3.2
  have h5 := sigsF_len nx p.notes p.down p.cnt
  obtain ⟨k, rfl⟩ : ∃ q, k = q + 1 := ⟨k - 1, by omega⟩
  have e : goF p.notes to (k + 1) (fr, p.down, p.cnt, l) = goF p.notes to k (nx + 1, (sigsF nx p.notes p.down p.cnt).1, (sigsF nx p.notes p.down p.cnt).2.1, l ++ (sigsF nx p.notes p.down p.cnt).2.2) := by
   conv => lhs; unfold goF
   dsimp only
   rw [hnx, if_neg h]
  rw [e]
  rw [Nat.add_mul, Nat.add_mul, Nat.one_mul] at ha
  obtain ⟨N, hN⟩ := f58b_loop kk p l n b tf to hb ht k (nx + 1, (sigsF nx p.notes p.down p.cnt).1, (sigsF nx p.notes p.down p.cnt).2.1, l ++ (sigsF nx p.notes p.down p.cnt).2.2) (by dsimp only; omega) (by dsimp only; omega) (by dsimp only; rw [List.length_append]; omega) (by dsimp only; omega)
  refine ⟨N + 1 + 1 + p.notes.length + 1, ?_⟩
  unfold V58b
  rw [vrun_succ]
  refine (f58bF_go _ kk p n tf to fr b l).trans ?_
  refine (hl (N + 1 + 1) p.notes.length 0 to (by omega)).trans ?_
  rw [List.drop_zero, List.drop_zero, hnx]
  unfold V58b
  rw [vrun_succ]
  refine (f58bF_0 _ kk _ p p.notes.length n b tf to fr p.place p.left p.num p.den p.from_ p.to_ p.on l p.notes p.down p.cnt).trans ?_
  rw [bif_neg (by exact decide_eq_false (by omega)), bif_neg (by exact decide_eq_false h), bif_pos (by unfold okR; rw [Bool.and_eq_true]; exact ⟨decide_eq_true ⟨hb, hd⟩, decide_eq_true (by omega)⟩), show IntKind.i64.wrap (nx + 1) = nx + 1 from w64 (by omega) (by omega), vrun_succ]
  refine (f58bF_1 _ kk _ _ _ _ _ _ _ _ _ _ _ _ _ _ _ _ _ _ _ _ _ _ _ _ _ _ _).trans ?_
  exact hN
end
end Vm.S14
open Go Go.Proofs
namespace Vm.S14
structure TS where
 n : Int
 b : Bool
 tf : Int
 to : Int
 fr : Int
 q : Option (List Sg)
 p : PS
abbrev TS.obs (r : TS) : List Ob := match r.q with
 | none => tsA0 r.p r.n r.b r.tf r.to r.fr r.p.down r.p.cnt
 | some l => tsB0 r.p r.n r.b r.tf r.to r.fr r.p.down r.p.cnt l
abbrev TS.obs1 (r : TS) (s : GoS) : List Ob := match r.q with
 | none => tsA1 r.p r.n r.b r.tf r.to s.1 s.2.1 s.2.2.1 s.2.2.2
 | some l => tsB1 r.p r.n r.b r.tf r.to s.1 s.2.1 s.2.2.1 s.2.2.2
def okT (l : List Nt) (d : List Bool) (to fr : Int) (k : Nat) : Bool := decide (l.length ≤ 1000 ∧ d.length = l.length ∧ to ≤ 1000000000000000000 ∧ -1000000000000000000 ≤ fr ∧ k ≤ 900000000)
def rdTS (os : List Ob) : Option TS := match os with
 | [.loop 39010 [(1, .int .i64 n), (2, .ref 4 0 0 0), (4, .nilsl), (5, .ref 5 0 0 0), (7, .bool b), (8, .int .i64 tf)] 0, .var [.int .i64 to], .var [.ref 6 0 0 0], .var [.int .i64 fr], .var [.ref 6 0 0 0], .var [.nilsl], .var [.int .i64 a1, .int .i64 a2, .int .i64 a3, .int .i64 a4, .int .i64 a5, .int .i64 a6, .own 7, .own 8, .map 9, .bool o], .arr r ns false, .arr r' ds false, .map kr true vr false cs] =>
   match Ks.eqp r rNote, Ks.eqp r' rB, Ks.eqp kr rK2, Ks.eqp vr rI with
   | some ⟨h1⟩, some ⟨h2⟩, some ⟨h3⟩, some ⟨h4⟩ => some ⟨n, b, tf, to, fr, none, ⟨a1, a2, a3, a4, a5, a6, Ks.cast h1 ns, Ks.cast h2 ds, Ks.castM h3 h4 cs, o⟩⟩
   | _, _, _, _ => none
 | [.loop 39010 [(1, .int .i64 n), (2, .ref 4 0 0 0), (4, .nilsl), (5, .ref 5 0 0 0), (7, .bool b), (8, .int .i64 tf)] 0, .var [.int .i64 to], .var [.ref 6 0 0 0], .var [.int .i64 fr], .var [.ref 6 0 0 0], .var [.own 7], .var [.int .i64 a1, .int .i64 a2, .int .i64 a3, .int .i64 a4, .int .i64 a5, .int .i64 a6, .own 8, .own 9, .map 10, .bool o], .arr r0 l false, .arr r ns false, .arr r' ds false, .map kr true vr false cs] =>
   match Ks.eqp r0 rSig, Ks.eqp r rNote, Ks.eqp r' rB, Ks.eqp kr rK2, Ks.eqp vr rI with
   | some ⟨h0⟩, some ⟨h1⟩, some ⟨h2⟩, some ⟨h3⟩, some ⟨h4⟩ => some ⟨n, b, tf, to, fr, some (Ks.cast h0 l), ⟨a1, a2, a3, a4, a5, a6, Ks.cast h1 ns, Ks.cast h2 ds, Ks.castM h3 h4 cs, o⟩⟩
   | _, _, _, _, _ => none
 | _ => none
theorem rdTS_obs {os : List Ob} {r : TS} (h : rdTS os = some r) : os = r.obs := by
 unfold rdTS at h
 split at h
 ·split at h
  ·rename_i h1 h2 h3 h4 _ _ _ _
   subst h1; subst h2; subst h3; subst h4
   cases h
   rfl
  ·cases h
 ·split at h
  ·rename_i h0 h1 h2 h3 h4 _ _ _ _ _
   subst h0; subst h1; subst h2; subst h3; subst h4
   cases h
   rfl
  ·cases h
 ·cases h
theorem okT_k {l : List Nt} {k : Nat} (h : l.length ≤ 1000) (hk : k ≤ 900000000) : k + ((2 * l.length + 1) + 1) * (2 * l.length) ≤ 1000000000 := by
 have h1 : ((2 * l.length + 1) + 1) * (2 * l.length) ≤ 2002 * 2000 := Nat.mul_le_mul (by omega) (by omega)
 omega
theorem f58_con (r : TS) (k : Nat) (hk : k = match r.q with | none => 0 | some l => l.length) (h : okT r.p.notes r.p.down r.to r.fr k = true) :
  ContractM Tryd.prog gls r.obs.length 58 [.yld 0, .ref 1 0 0 0, .ref 2 0 0 0, .ref 3 0 0 0] r.obs (.tuple []) (if r.to ≤ nextL r.fr r.p.notes r.p.down r.to then r.obs else r.obs1 (goR r.p.notes r.to (r.fr, r.p.down, r.p.cnt, match r.q with | none => [] | some l => l))) := by
 obtain ⟨n, b, tf, to, fr, q, p⟩ := r
 obtain ⟨h1, h2, h3, h4, h5⟩ := of_decide_eq_true h
 have he := evN_le fr p.notes
 cases q with
 | none =>
   obtain ⟨N, hN⟩ := f58a_run (fun v os => some (v, os)) p n b tf to fr (by dsimp only at h1; omega) h2 h3 h4 (2 * p.notes.length + 1) (by omega) (okT_k h1 (by decide))
   refine ps_contract (m := 10) (ready26 8) (glE26 8) (fn := (fb Tryd.f58).1) (c := (fb Tryd.f58).2) Tryd.func58 (by kernel_rfl) (by kernel_rfl) (by decide) (rfOk_no (by kernel_rfl)) (hN.trans ?_) (Nat.le_refl _)
   dsimp only
   by_cases hc : to ≤ nextL fr p.notes p.down to
   ·rw [if_pos hc, if_pos hc]
   ·rw [if_neg hc, if_neg hc]; rfl
 | some l =>
   obtain ⟨N, hN⟩ := f58b_run (fun v os => some (v, os)) p n b tf to fr l (by dsimp only at h1; omega) h2 h3 h4 (2 * p.notes.length + 1) (by omega) (okT_k h1 (by dsimp only at hk; omega))
   refine ps_contract (m := 11) (ready26 8) (glE26 8) (fn := (fb Tryd.f58).1) (c := (fb Tryd.f58).2) Tryd.func58 (by kernel_rfl) (by kernel_rfl) (by decide) (rfOk_no (by kernel_rfl)) (hN.trans ?_) (Nat.le_refl _)
   dsimp only
   by_cases hc : to ≤ nextL fr p.notes p.down to
   ·rw [if_pos hc, if_pos hc]
   ·rw [if_neg hc, if_neg hc]; rfl
noncomputable def f58e : Entry Tryd.prog gls where
 f := 58
 fl := true
 g := fun _ _ => none
 says := fun _ _ _ _ _ h => by cases h
 br := fun args os => match args with
  | [.yld 0, .ref 1 0 0 0, .ref 2 0 0 0, .ref 3 0 0 0] => match rdTS os with
    | some ⟨n, b, tf, to, fr, none, p⟩ => some (okT p.notes p.down to fr 0, decide (to ≤ nextL fr p.notes p.down to), (.tuple [], TS.obs ⟨n, b, tf, to, fr, none, p⟩), (.tuple [], TS.obs1 ⟨n, b, tf, to, fr, none, p⟩ (goR p.notes to (fr, p.down, p.cnt, []))))
    | some ⟨n, b, tf, to, fr, some l, p⟩ => some (okT p.notes p.down to fr l.length, decide (to ≤ nextL fr p.notes p.down to), (.tuple [], TS.obs ⟨n, b, tf, to, fr, some l, p⟩), (.tuple [], TS.obs1 ⟨n, b, tf, to, fr, some l, p⟩ (goR p.notes to (fr, p.down, p.cnt, l))))
    | none => none
  | _ => none
 brSays := fun args os c b p q h hc => by
  subst hc
  split at h
  ·split at h
   ·rename_i n b to' to fr p hr
    simp only [Option.some.injEq, Prod.mk.injEq] at h
    obtain ⟨h1, rfl, rfl, rfl⟩ := h
    rw [rdTS_obs hr]
    have := f58_con ⟨n, b, to', to, fr, none, p⟩ 0 rfl h1
    dsimp only at this
    by_cases hc : to ≤ nextL fr p.notes p.down to
    ·rw [if_pos hc] at this; rw [decide_eq_true hc]; exact this
    ·rw [if_neg hc] at this; rw [decide_eq_false hc]; exact this
   ·rename_i n b to' to fr l p hr
    simp only [Option.some.injEq, Prod.mk.injEq] at h
    obtain ⟨h1, rfl, rfl, rfl⟩ := h
    rw [rdTS_obs hr]
    have := f58_con ⟨n, b, to', to, fr, some l, p⟩ l.length rfl h1
    dsimp only at this
    by_cases hc : to ≤ nextL fr p.notes p.down to
    ·rw [if_pos hc] at this; rw [decide_eq_true hc]; exact this
    ·rw [if_neg hc] at this; rw [decide_eq_false hc]; exact this
   ·cases h
  ·cases h
noncomputable def es27 : List (Entry Tryd.prog gls) := [f58e] ++ es26
noncomputable def E27 (n : Nat) : Env := interp fns (look tys) gls mvs (tabOf es27) 100000 n
theorem ready27 (n : Nat) : Ready Tryd.prog (E27 n) := ready_of mixed fnsAll tysOk rfsOk n
theorem glE27 (n : Nat) : (E27 n).gl = gls := by cases n <;> rfl
end Vm.S14
