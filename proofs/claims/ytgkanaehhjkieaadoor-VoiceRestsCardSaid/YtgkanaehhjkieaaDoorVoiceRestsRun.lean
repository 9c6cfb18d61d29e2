/- The statement VoiceRests, as a run of the value machine. -/
import Derived.Test.YtgkanaehhjkieaaDoorLawG
import Derived.Test.YtgkanaehhjkieaaDoorVmE
import Derived.KernelRfl
import Derived.Test.YtgkanaehhjkieaaDoorWords
import Derived.Test.YtgkanaehhjkieaaDoorEnv
import Derived.Lay
import Derived.Test.YtgkanaehhjkieaaDoorRows
set_option maxRecDepth 100000
open Go Go.Proofs
namespace Vm.S07
noncomputable abbrev f6cuts : Cuts := look [(5, [5, 6]), (13, [5, 7, 8, 9, 10, 11, 12, 13, 14, 16, 17, 18, 19])]
noncomputable abbrev f6t13 : List Item := itemsAt (fb Tryd.f6).2 13
noncomputable abbrev f6t5 : List Item := itemsAt (fb Tryd.f6).2 5
def f6s0 (b3 : Bool) (n4 : Int) (n5 : Int) : St := { fr := [(5, V.bool b3), (6, V.ref 0 0 0 0)], hp := [(0, Ob.var [V.int IntKind.i64 n4, V.int IntKind.i64 n5, V.nilsl])], nx := 1 }
def f6s1 (b3 : Bool) (n4 : Int) (n5 : Int) (n6 : Int) (l7 : List (Int × List (Int × Int × Int) × List Bool × Int × Int × Int × Int × List Int × List UInt8)) (x8 : Int × Int) (x9 : Int × Int) (l10 : List (Int × List (Int × Int × Int) × List Bool × Int × Int × Int × Int × List Int × List UInt8)) : St := { fr := [(5, V.bool b3), (7, V.ref 0 0 0 0), (8, V.int IntKind.i64 (Me.rests (n4, n5, [])).snd), (9, V.ref 1 0 0 0), (10, V.int IntKind.i64 (Me.rests (n4, n5, [])).fst.len.snd), (11, V.ref 2 0 0 0), (12, V.int IntKind.i64 (50 : Int)), (13, V.sl rSound (Me.rests (n4, n5, [])).fst.sounds.fst), (14, V.int IntKind.i64 (Me.rests (n4, n5, [])).fst.sounds.snd), (16, V.int IntKind.i64 (Me.rests (n4, n5, [])).fst.chk.snd), (17, V.ref 3 0 0 0), (18, V.int IntKind.i64 (Me.rests (n4, n5, [n4])).snd), (19, V.int IntKind.i64 n6)], hp := [(0, Ob.var [V.sl rEvent l7]), (1, Ob.var [V.int IntKind.i64 x8.fst, V.int IntKind.i64 x8.snd]), (2, Ob.var [V.int IntKind.i64 x9.fst, V.int IntKind.i64 x9.snd]), (3, Ob.var [V.sl rEvent l10])], nx := 4 }
def f6s2 (b3 : Bool) (n4 : Int) (n5 : Int) (n11 : Int) (l12 : List (Int × List (Int × Int × Int) × List Bool × Int × Int × Int × Int × List Int × List UInt8)) (x13 : Int × Int) (x14 : Int × Int) (l15 : List (Int × List (Int × Int × Int) × List Bool × Int × Int × Int × Int × List Int × List UInt8)) : St := { fr := [(5, V.bool b3), (7, V.ref 0 0 0 0), (8, V.int IntKind.i64 (Me.rests (n4, n5, [])).snd), (9, V.ref 1 0 0 0), (10, V.int IntKind.i64 (Me.rests (n4, n5, [])).fst.len.snd), (11, V.ref 2 0 0 0), (12, V.int IntKind.i64 (Rt.of n4 n5).snd), (13, V.sl rSound (Me.rests (n4, n5, [])).fst.sounds.fst), (14, V.int IntKind.i64 (Me.rests (n4, n5, [])).fst.sounds.snd), (16, V.int IntKind.i64 (Me.rests (n4, n5, [])).fst.chk.snd), (17, V.ref 3 0 0 0), (18, V.int IntKind.i64 (Me.rests (n4, n5, [n4])).snd), (19, V.int IntKind.i64 n11)], hp := [(0, Ob.var [V.sl rEvent l12]), (1, Ob.var [V.int IntKind.i64 x13.fst, V.int IntKind.i64 x13.snd]), (2, Ob.var [V.int IntKind.i64 x14.fst, V.int IntKind.i64 x14.snd]), (3, Ob.var [V.sl rEvent l15])], nx := 4 }
theorem f6_go {R : Type} (J : List Item → St → Option R) (kk : V → List Ob → Option R) (a : Int) (b : Int) :
  vseg ((E25 8)) f6cuts 0 J (vend ((E25 8)) 0 (fb Tryd.f6).1.results.toList false kk) 100000 true [.code (fb Tryd.f6).2] (start ([V.int IntKind.i64 a, V.int IntKind.i64 b]) ([])) =
  (match idx ((((((((List.replicate (7 : Nat) (Int.ofNat (0 : Nat))).set (0 : Nat) (1 : Int)).set (1 : Nat) (2 : Int)).set (2 : Nat) (4 : Int)).set (3 : Nat) (8 : Int)).set (4 : Nat) (16 : Int)).set (5 : Nat) (32 : Int)).set (6 : Nat) (64 : Int)) (pickI b (7 : Int)) with
    | some y1 => (match ((((((((List.replicate (7 : Nat) (Int.ofNat (0 : Nat))).set (0 : Nat) (1 : Int)).set (1 : Nat) (2 : Int)).set (2 : Nat) (4 : Int)).set (3 : Nat) (8 : Int)).set (4 : Nat) (16 : Int)).set (5 : Nat) (32 : Int)).set (6 : Nat) (64 : Int))[(pickI b (7 : Int)).toNat]? with
      | some y2 => J f6t5 (f6s0 (true) (IntKind.i64.wrap ((1 : Int) + pickI a (32 : Int))) (y2))
      | none => none)
    | none => none) := by kernel_rfl
theorem f6_0 {R : Type} (J : List Item → St → Option R) (kk : V → List Ob → Option R) (b3 : Bool) (n4 : Int) (n5 : Int) :
  vseg ((E25 8)) f6cuts 0 J (vend ((E25 8)) 0 (fb Tryd.f6).1.results.toList false kk) 100000 true f6t5 (f6s0 b3 n4 n5) =
  (bif Me.restsG (n4, n5, []) then
    (bif Vo.ok (Me.rests (n4, n5, [])).fst then
      (bif !Me.right (n4, n5, []) then
        (bif (Me.rests (n4, n5, [])).fst.soundsOk then
          (bif Vo.ok (Me.rests (n4, n5, [])).fst then
            (bif Me.restsG (n4, n5, [n4]) then
              J f6t13 (f6s1 (b3) (n4) (n5) (0 : Int) ((Me.rests (n4, n5, [])).fst) ((Me.rests (n4, n5, [])).fst.len.fst) (((0 : Int), (0 : Int))) ((Me.rests (n4, n5, [n4])).fst))
            else none)
          else none)
        else none)
      else (bif i64B n4 && i64B n5 then
          (bif (Me.rests (n4, n5, [])).fst.soundsOk then
            (bif Vo.ok (Me.rests (n4, n5, [])).fst then
              (bif Me.restsG (n4, n5, [n4]) then
                J f6t13 (f6s2 (b3) (n4) (n5) (0 : Int) ((Me.rests (n4, n5, [])).fst) ((Me.rests (n4, n5, [])).fst.len.fst) ((Rt.of n4 n5).fst) ((Me.rests (n4, n5, [n4])).fst))
              else none)
            else none)
          else none)
        else none))
    else none)
  else none) := by kernel_rfl
theorem f6_1 {R : Type} (J : List Item → St → Option R) (kk : V → List Ob → Option R) (b3 : Bool) (n4 : Int) (n5 : Int) (n6 : Int) (l7 : List (Int × List (Int × Int × Int) × List Bool × Int × Int × Int × Int × List Int × List UInt8)) (x8 : Int × Int) (x9 : Int × Int) (l10 : List (Int × List (Int × Int × Int) × List Bool × Int × Int × Int × Int × List Int × List UInt8)) :
  vseg ((E25 8)) f6cuts 0 J (vend ((E25 8)) 0 (fb Tryd.f6).1.results.toList false kk) 100000 true f6t13 (f6s1 b3 n4 n5 n6 l7 x8 x9 l10) =
  (bif decide (n6 < (↑l7.length : Int)) then
    (match idx l7 n6 with
      | some y16 => (bif !decide (y16.fst = (0 : Int)) then
        kk (V.bool false) ([])
      else (match idx l7 n6 with
          | some y17 => (bif Ev.okm y17 then
            (bif !Ev.right y17 then
              kk (V.bool false) ([])
            else J f6t13 (f6s1 (b3) (n4) (n5) (IntKind.i64.wrap (n6 + (1 : Int))) (l7) (x8) (x9) (l10)))
          else none)
          | none => none))
      | none => none)
  else (bif b3 then
      (bif decide ((Me.rests (n4, n5, [])).snd = (0 : Int)) then
        (bif decide ((Me.rests (n4, n5, [])).fst.len.snd = (0 : Int)) then
          kk (V.bool false) ([])
        else kk (V.bool false) ([]))
      else kk (V.bool false) ([]))
    else kk (V.bool false) ([]))) := by kernel_rfl
theorem f6_2 {R : Type} (J : List Item → St → Option R) (kk : V → List Ob → Option R) (b3 : Bool) (n4 : Int) (n5 : Int) (n11 : Int) (l12 : List (Int × List (Int × Int × Int) × List Bool × Int × Int × Int × Int × List Int × List UInt8)) (x13 : Int × Int) (x14 : Int × Int) (l15 : List (Int × List (Int × Int × Int) × List Bool × Int × Int × Int × Int × List Int × List UInt8)) :
  vseg ((E25 8)) f6cuts 0 J (vend ((E25 8)) 0 (fb Tryd.f6).1.results.toList false kk) 100000 true f6t13 (f6s2 b3 n4 n5 n11 l12 x13 x14 l15) =
  (bif decide (n11 < (↑l12.length : Int)) then
    (match idx l12 n11 with
      | some y18 => (bif !decide (y18.fst = (0 : Int)) then
        kk (V.bool false) ([])
      else (match idx l12 n11 with
          | some y19 => (bif Ev.okm y19 then
            (bif !Ev.right y19 then
              kk (V.bool false) ([])
            else J f6t13 (f6s2 (b3) (n4) (n5) (IntKind.i64.wrap (n11 + (1 : Int))) (l12) (x13) (x14) (l15)))
          else none)
          | none => none))
      | none => none)
  else (bif b3 then
      (bif decide ((Me.rests (n4, n5, [])).snd = (0 : Int)) then
        (bif decide ((Me.rests (n4, n5, [])).fst.len.snd = (0 : Int)) then
          (bif decide ((Rt.of n4 n5).snd = (0 : Int)) then
            (bif decide (x13.fst = x14.fst) && decide (x13.snd = x14.snd) then
              (bif decide ((Me.rests (n4, n5, [])).fst.sounds.snd = (0 : Int)) then
                (bif decide ((↑(Me.rests (n4, n5, [])).fst.sounds.fst.length : Int) = (0 : Int)) then
                  (bif decide ((Me.rests (n4, n5, [])).fst.chk.snd = (0 : Int)) then
                    (bif decide ((Me.rests (n4, n5, [n4])).snd = (0 : Int)) then
                      (bif decide (l12.length < (4611686018427387904 : Nat)) && l12.all Ev.small then
                        (bif voSame l12 l15 then
                          kk (V.bool (decide ((0 : Int) < (↑l12.length : Int)))) ([])
                        else kk (V.bool false) ([]))
                      else none)
                    else kk (V.bool false) ([]))
                  else kk (V.bool false) ([]))
                else kk (V.bool false) ([]))
              else kk (V.bool false) ([]))
            else kk (V.bool false) ([]))
          else kk (V.bool false) ([]))
        else kk (V.bool false) ([]))
      else kk (V.bool false) ([]))
    else kk (V.bool false) ([]))) := by kernel_rfl

end Vm.S07

/- Rests that fill a bar: all bars. -/
open Go
namespace Vm
def restsLaw (n d : Int) : Bool :=
  Me.restsG (n, d, []) && (Vo.ok (Me.rests (n, d, [])).1 && (Me.right (n, d, []) && ((Me.rests (n, d, [])).1.soundsOk && (Me.restsG (n, d, [n]) &&
  ((Me.rests (n, d, [])).1.all (fun e => decide (e.1 = 0) && (e.okm && e.right)) && (decide ((Me.rests (n, d, [])).2 = 0) && (decide ((Me.rests (n, d, [])).1.len.2 = 0) &&
  (decide ((Rt.of n d).2 = 0) && (decide ((Me.rests (n, d, [])).1.len.1 = (Rt.of n d).1) && (decide ((Me.rests (n, d, [])).1.sounds.2 = 0) &&
  (decide ((Me.rests (n, d, [])).1.sounds.1.length = 0) && (decide ((Me.rests (n, d, [])).1.chk.2 = 0) && (decide ((Me.rests (n, d, [n])).2 = 0) &&
  (decide ((Me.rests (n, d, [])).1.length < 4611686018427387904) && ((Me.rests (n, d, [])).1.all Ev.small && (voSame (Me.rests (n, d, [])).1 (Me.rests (n, d, [n])).1 &&
  decide (0 < (Me.rests (n, d, [])).1.length)))))))))))))))))
theorem restsLaw_all : (List.range 32).all (fun i => (List.range 7).all fun j => restsLaw ((i : Int) + 1) (2 ^ j)) = true := by kernel_rfl
end Vm

open Go Go.Proofs
namespace Vm.S07
theorem pickI_range {c n : Int} (h1 : -9223372036854775808 ≤ c) (h2 : c ≤ 9223372036854775807) (hn : 0 < n) : 0 ≤ pickI c n ∧ pickI c n < n := by
  unfold pickI
  by_cases h : c < 0
  · rw [if_pos h, w64 (n := c + 1) (by omega) (by omega), w64 (n := 0 - (c + 1)) (by omega) (by omega)]
    exact ⟨Int.tmod_nonneg _ (by omega), Int.tmod_lt_of_pos _ hn⟩
  · rw [if_neg h]
    exact ⟨Int.tmod_nonneg _ (by omega), Int.tmod_lt_of_pos _ hn⟩
theorem dens_get : ∀ j : Nat, j < 7 → ([1, 2, 4, 8, 16, 32, 64] : List Int)[j]? = some (2 ^ j) := by decide
theorem f6_loop {R : Type} (kk : V → List Ob → Option R) (a d : Int) (h : restsLaw a d = true) : ∀ (k i : Nat), i + k = (Me.rests (a, d, [])).1.length →
    vrun (E25 8) f6cuts 0 100000 (vend (E25 8) 0 (fb Tryd.f6).1.results.toList false kk) (k + 1) f6t13 (f6s2 true a d i (Me.rests (a, d, [])).1 (Me.rests (a, d, [])).1.len.1 (Rt.of a d).1 (Me.rests (a, d, [a])).1) = kk (.bool true) [] := by
  simp only [restsLaw, Bool.and_eq_true, decide_eq_true_eq] at h
  obtain ⟨q1, q2, q3, q4, q5, q6, q7, q8, q9, q10, q11, q12, q13, q14, q15, q16, q17, q18⟩ := h
  intro k
  induction k with
  | zero =>
    intro i hi
    rw [vrun_succ, f6_2]
    generalize Me.rests (a, d, []) = r at *
    generalize Me.rests (a, d, [a]) = r' at *
    generalize Rt.of a d = o at *
    have e1 : decide ((0 : Int) < ((r.1.length : Nat) : Int)) = true := decide_eq_true (by omega)
    have e2 : decide (((r.1.sounds.1.length : Nat) : Int) = 0) = true := decide_eq_true (by omega)
    rw [bif_neg (by exact decide_eq_false (by omega)), cond_true, decide_eq_true q7, decide_eq_true q8, decide_eq_true q9, q10, decide_eq_true (show o.1.1 = o.1.1 from rfl), decide_eq_true (show o.1.2 = o.1.2 from rfl), decide_eq_true q11, e2, decide_eq_true q13, decide_eq_true q14, decide_eq_true q15, q16, q17, e1]
    simp only [cond_true, Bool.and_self]
  | succ k ih =>
    intro i hi
    rw [vrun_succ, f6_2]
    generalize Me.rests (a, d, []) = r at *
    generalize Me.rests (a, d, [a]) = r' at *
    generalize Rt.of a d = o at *
    have hlt : i < r.1.length := by omega
    have e := List.all_eq_true.1 q6 _ (List.getElem_mem hlt)
    simp only [Bool.and_eq_true, decide_eq_true_eq] at e
    have hs := Vo.chk_small q13
    rw [bif_pos (by exact decide_eq_true (by omega)), idx_nat, List.getElem?_eq_getElem hlt, wrap_succ (by omega)]
    dsimp only
    rw [decide_eq_true e.1, e.2.1, e.2.2]
    simp only [cond_true, cond_false, Bool.not_true]
    exact ih (i + 1) (by omega)
theorem f6_run {R : Type} (kk : V → List Ob → Option R) (a b : Int) (ha : (-9223372036854775808 : Int) ≤ a ∧ a ≤ (9223372036854775807 : Int)) (hb : (-9223372036854775808 : Int) ≤ b ∧ b ≤ (9223372036854775807 : Int)) :
    ∃ n, vrun (E25 8) f6cuts 0 100000 (vend (E25 8) 0 (fb Tryd.f6).1.results.toList false kk) n [.code (fb Tryd.f6).2] (start [enc false rI a, enc false rI b] []) = kk (.bool true) [] := by
  have pa := pickI_range ha.1 ha.2 (n := 32) (by omega)
  have pb := pickI_range hb.1 hb.2 (n := 7) (by omega)
  obtain ⟨i, hi⟩ : ∃ i : Nat, pickI a 32 = (i : Int) := ⟨(pickI a 32).toNat, by omega⟩
  obtain ⟨j, hj⟩ : ∃ j : Nat, pickI b 7 = (j : Int) := ⟨(pickI b 7).toNat, by omega⟩
  have hl : restsLaw ((i : Int) + 1) (2 ^ j) = true := List.all_eq_true.1 (List.all_eq_true.1 restsLaw_all i (List.mem_range.2 (by omega))) j (List.mem_range.2 (by omega))
  have hl' := hl
  simp only [restsLaw, Bool.and_eq_true, decide_eq_true_eq] at hl'
  obtain ⟨q1, q2, q3, q4, q5, q6, q7, q8, q9, q10, q11, q12, q13, q14, q15, q16, q17, q18⟩ := hl'
  have hr := Me.right_i64 q3
  refine ⟨(Me.rests ((i : Int) + 1, 2 ^ j, [])).1.length + 1 + 1 + 1, ?_⟩
  rw [vrun_succ]
  refine (f6_go _ kk a b).trans ?_
  rw [hi, hj, show ((((((((List.replicate (7 : Nat) (Int.ofNat (0 : Nat))).set (0 : Nat) (1 : Int)).set (1 : Nat) (2 : Int)).set (2 : Nat) (4 : Int)).set (3 : Nat) (8 : Int)).set (4 : Nat) (16 : Int)).set (5 : Nat) (32 : Int)).set (6 : Nat) (64 : Int)) = ([1, 2, 4, 8, 16, 32, 64] : List Int) from rfl, idx_nat, show ((j : Int).toNat) = j from rfl, dens_get j (by omega)]
  dsimp only
  rw [w64 (n := (1 : Int) + (i : Int)) (by omega) (by omega), show (1 : Int) + (i : Int) = (i : Int) + 1 from Int.add_comm _ _, vrun_succ, f6_0, q1, q2, q3, q4, q5, i64B_of (n := (i : Int) + 1) (by omega) (by omega), i64B_of (n := 2 ^ j) (by have := hr.2.2.1; dsimp only at this; omega) (by have := hr.2.2.2; dsimp only at this; omega)]
  simp only [cond_true, cond_false, Bool.not_true, Bool.and_self]
  exact f6_loop kk _ _ hl (Me.rests ((i : Int) + 1, 2 ^ j, [])).1.length 0 (by omega)
end Vm.S07

namespace Go.Proofs.YtgkanaehhjkieaaDoor
open Go.ChangeShapes Go.WideShapes Go.ChangeAt Go.WideMaps Go.WideElems Go.RowKit Vm
theorem own : ownKnob Tryd.prog.godebug = none := by kernel_rfl
theorem laidOut : laidOutB Tryd.prog = true := by kernel_rfl
theorem g_accept : Tryd.prog.globalNamed "unicode/utf8.acceptRanges" = some 2 := by kernel_rfl
theorem t_accept : (Tryd.prog.globals[2]?).map (·.type) = some 134 := by kernel_rfl
theorem g_half : Tryd.prog.globalNamed "partita/pitch.halfTones" = some 3 := by kernel_rfl
theorem t_half : (Tryd.prog.globals[3]?).map (·.type) = some 137 := by kernel_rfl
theorem g_dotted : Tryd.prog.globalNamed "partita/value.dotted" = some 4 := by kernel_rfl
theorem t_dotted : (Tryd.prog.globals[4]?).map (·.type) = some 142 := by kernel_rfl
theorem g_kinds : Tryd.prog.globalNamed "partita/value.kinds" = some 0 := by kernel_rfl
theorem t_kinds : (Tryd.prog.globals[0]?).map (·.type) = some 114 := by kernel_rfl
theorem g_first : Tryd.prog.globalNamed "unicode/utf8.first" = some 1 := by kernel_rfl
theorem t_first : (Tryd.prog.globals[1]?).map (·.type) = some 131 := by kernel_rfl
abbrev theLaid : List (String × DataW Unit) := [("unicode/utf8.acceptRanges", Rows.laid_unicode_utf8_acceptRanges), ("partita/pitch.halfTones", Rows.laid_partita_pitch_halfTones), ("partita/value.dotted", Rows.laid_partita_value_dotted), ("partita/value.kinds", Rows.laid_partita_value_kinds), ("unicode/utf8.first", Rows.laid_unicode_utf8_first)]
theorem globs {W : World} (h : laidMetH Tryd.prog theLaid W) : ∀ g r xs, S07.gls.g g = some ⟨r, xs⟩ → allOld W g ∧ ∀ (i : Nat) x, xs[i]? = some x → Ks.Rep W (allOld W) r x g (i * r.len) := by
  rw [MakeChecks.laidMetH_plain _ _ _ (by kernel_rfl)] at h
  obtain ⟨ps, ⟨g0, t0, cs0, f0, p0, q0, hg0, ht0, hv0, hd0, ⟨g1, t1, cs1, f1, p1, q1, hg1, ht1, hv1, hd1, ⟨g2, t2, cs2, f2, p2, q2, hg2, ht2, hv2, hd2, ⟨g3, t3, cs3, f3, p3, q3, hg3, ht3, hv3, hd3, ⟨g4, t4, cs4, f4, p4, q4, hg4, ht4, hv4, hd4, _, _⟩, _⟩, _⟩, _⟩, _⟩, _, _⟩ := h
  intro g r xs hg
  have h2 := glob_of (name := "unicode/utf8.acceptRanges") g_accept t_accept (.cons (.int .u8) (.cons (.int .u8) .nil)) utf8Accept (by kernel_rfl) (by kernel_rfl) (by decide) (by rfl) hg0 ht0 hv0 hd0
  have h3 := glob_of (name := "partita/pitch.halfTones") g_half t_half (.cons (.int .i64) .nil) glHalf (by kernel_rfl) (by kernel_rfl) (by decide) (by rfl) hg1 ht1 hv1 hd1
  have h4 := glob_of (name := "partita/value.dotted") g_dotted t_dotted (.cons (.int .i64) (.cons (.int .i64) .nil)) glDotted (by kernel_rfl) (by kernel_rfl) (by decide) (by rfl) hg2 ht2 hv2 hd2
  have h0 := glob_of (name := "partita/value.kinds") g_kinds t_kinds (.cons (.int .i64) (.cons (.int .i64) (.cons (.int .i64) (.cons (.int .i64) .nil)))) glKinds (by kernel_rfl) (by kernel_rfl) (by decide) (by rfl) hg3 ht3 hv3 hd3
  have h1 := glob_of (name := "unicode/utf8.first") g_first t_first (.cons (.int .u8) .nil) utf8First (by kernel_rfl) (by kernel_rfl) (by decide) (by rfl) hg4 ht4 hv4 hd4
  simp only [S07.gls, Vm.look] at hg
  split at hg
  · rename_i e; subst e; cases hg; exact h0
  · skip
    split at hg
    · rename_i e; subst e; cases hg; exact h1
    · skip
      split at hg
      · rename_i e; subst e; cases hg; exact h2
      · skip
        split at hg
        · rename_i e; subst e; cases hg; exact h3
        · skip
          split at hg
          · rename_i e; subst e; cases hg; exact h4
          · cases hg

noncomputable abbrev W0 (os : Os) : World := World.laidAll Tryd.prog os theLaid
theorem laid_met (os : Os) (args : Array Value) : laidMetH Tryd.prog theLaid ((W0 os).forCall (fun _ _ => 0) ⟨#[], args, []⟩).memory := by
  rw [MakeChecks.laidMetH_plain _ _ _ (by kernel_rfl)]
  exact laidMet_laidAll _ (by kernel_rfl) (by kernel_rfl)
theorem shaped (os : Os) : (W0 os).Shaped Tryd.prog := World.shaped_of_ZipB (by kernel_rfl) (by kernel_rfl)
def wEv : Value := .agg #[.int .i64 0, .slice none 0 0, .slice none 0 0, .int .i64 0, .int .i64 0, .int .i64 0, .int .i64 0, .slice none 0 0, .string ⟨#[]⟩]

abbrev wVal : Value := .agg #[.int .i64 0, .int .i64 0, .int .i64 0, .int .i64 0]
abbrev wIv : Value := .agg #[.int .i64 0, .int .i64 0]
abbrev rU8 : Ks := .cons (.int .u8) .nil
theorem wf_u8 {n : Int} (h : (Lit.int .u8 n).wf = true) : (0 : Int) ≤ n ∧ n ≤ (255 : Int) := by
  simp [Lit.wf, IntKind.min, IntKind.max, IntKind.signed, IntKind.bits] at h; omega
theorem wf_i64 {n : Int} (h : (Lit.int .i64 n).wf = true) : (-9223372036854775808 : Int) ≤ n ∧ n ≤ (9223372036854775807 : Int) := by
  simp [Lit.wf, IntKind.min, IntKind.max, IntKind.signed, IntKind.bits] at h; omega
end Go.Proofs.YtgkanaehhjkieaaDoor

