/- The statement, as a run of the value machine. -/
import Derived.Test.YtlbkefgnblajlaaDoorLawF
import Derived.Test.YtlbkefgnblajlaaDoorVmE
import Derived.KernelRfl
import Derived.Test.YtlbkefgnblajlaaDoorWords
import Derived.Test.YtlbkefgnblajlaaDoorEnv
import Derived.Lay
import Derived.Test.YtlbkefgnblajlaaDoorRows
set_option maxRecDepth 100000
open Go Go.Proofs Go.IntKind
namespace Vm.S6b
variable {R : Type} (J : List Item → St → Option R) (kk : V → List Ob → Option R)
noncomputable abbrev k3 {Q : Type} (k : V → List Ob → Option Q) := vend (E22 8) 0 (fb Tryd.f3).1.results.toList false k
noncomputable abbrev k4 {Q : Type} (k : V → List Ob → Option Q) := vend (E22 8) 0 (fb Tryd.f4).1.results.toList false k
noncomputable abbrev k5 {Q : Type} (k : V → List Ob → Option Q) := vend (E22 8) 0 (fb Tryd.f5).1.results.toList false k
noncomputable abbrev k6 {Q : Type} (k : V → List Ob → Option Q) := vend (E22 8) 0 (fb Tryd.f6).1.results.toList false k
noncomputable abbrev f7cuts : Cuts := look [(6, [0, 3, 5, 6, 7])]
noncomputable abbrev f7t6 : List Item := itemsAt (fb Tryd.f7).2 6
def f7s0 (l : List Ev) (n1 : Int) (x2 : Int × Int) : St := { fr := [(0, V.sl rEvent l), (3, V.ref 0 0 0 0), (5, V.bool true), (6, V.nilsl), (7, V.int i64 n1)], hp := [(0, Ob.var [V.int i64 x2.fst, V.int i64 x2.snd])], nx := 1 }
def f7s1 (l : List Ev) (n4 : Int) (x5 : Int × Int) (l6 : List Ev) : St := { fr := [(0, V.sl rEvent l), (3, V.ref 0 0 0 0), (5, V.bool true), (6, V.own 1), (7, V.int i64 n4)], hp := [(0, Ob.var [V.int i64 x5.fst, V.int i64 x5.snd]), (1, Ob.arr (Ks.cons (K.int i64) (Ks.cons (K.sl rPitch) (Ks.cons (K.sl rB) (Ks.cons (K.int i64) (Ks.cons (K.int i64) (Ks.cons (K.int i64) (Ks.cons (K.int i64) (Ks.cons (K.sl rI) (Ks.cons K.str Ks.nil))))))))) l6 false)], nx := 2 }
noncomputable abbrev k7 {Q : Type} (k : V → List Ob → Option Q) := vend (E22 8) 0 (fb Tryd.f7).1.results.toList false k
theorem f7_go (l : List Ev) (b : Int × Int) :
 vseg (E22 8) f7cuts 0 J (k7 kk) 100000 true [.code (fb Tryd.f7).2] (start ([enc false srE l, enc true rIv b]) ([])) =
 (bif !fewS l then
 kk (V.bool true) ([])
 else J f7t6 (f7s0 l (0 : Int) b)) := by kernel_rfl
theorem f7_0 (l : List Ev) (n1 : Int) (x2 : Int × Int) :
 vseg (E22 8) f7cuts 0 J (k7 kk) 100000 true f7t6 (f7s0 l n1 x2) =
 (bif decide (n1 < (↑l.length : Int)) then
 (match idx l n1 with
 | some y3 => (bif Ev.okUp y3 then
 (bif !decide ((Ev.up y3 x2).snd = (0 : Int)) then
 kk (V.bool true) ([])
 else J f7t6 (f7s1 l (i64.wrap (n1 + (1 : Int))) x2 ([(Ev.up y3 x2).fst])))
 else none)
 | none => none)
 else (bif okC10 l then
 kk (V.bool (decide ((chordS []).snd = (chordS l).snd))) ([])
 else none)) := by kernel_rfl
theorem f7_1 (l : List Ev) (n4 : Int) (x5 : Int × Int) (l6 : List Ev) :
 vseg (E22 8) f7cuts 0 J (k7 kk) 100000 true f7t6 (f7s1 l n4 x5 l6) =
 (bif decide (n4 < (↑l.length : Int)) then
 (match idx l n4 with
 | some y7 => (bif Ev.okUp y7 then
 (bif !decide ((Ev.up y7 x5).snd = (0 : Int)) then
 kk (V.bool true) ([])
 else (bif decide ((l6.length + 1) * 128 ≤ bytesMost) then
 J f7t6 (f7s1 l (i64.wrap (n4 + (1 : Int))) x5 (l6 ++ [(Ev.up y7 x5).fst]))
 else none))
 else none)
 | none => none)
 else (bif okC10 l6 then
 (bif okC10 l then
 (bif !decide ((chordS l6).snd = (0 : Int)) then
 kk (V.bool (decide ((chordS l6).snd = (chordS l).snd))) ([])
 else (bif !decide ((chordS l).snd = (0 : Int)) then
 kk (V.bool (decide ((chordS l6).snd = (chordS l).snd))) ([])
 else (bif Ev.okUp (chordS l).fst then
 (bif decide (((chordS l).fst.up x5).snd = (0 : Int)) then
 (bif (chordS l6).fst.small then
 kk (V.bool ((chordS l6).fst.same ((chordS l).fst.up x5).fst)) ([])
 else none)
 else kk (V.bool false) ([]))
 else none)))
 else none)
 else none)) := by kernel_rfl
end Vm.S6b
open Go Go.Proofs
namespace Vm.S6b
theorem smallOf {x : Ev} (h : x.2.1.length ≤ 20 ∧ x.2.2.1.length ≤ 20 ∧ x.2.2.2.2.2.2.2.1.length ≤ 20) : Ev.small x = true := Ev.small_of (by omega) (by omega) (by omega)
theorem chordS_smallB (l : List Ev) : Ev.small (chordS l).1 = true := by
 have := chordS_short l
 exact smallOf ⟨by omega, by omega, by omega⟩
theorem okUpOf {x : Ev} (h : x.2.2.2.2.2.2.2.1.length ≤ 20) : Ev.okUp x = true := by
 unfold Ev.okUp Ev.okm
 rw [Bool.and_eq_true]
 exact ⟨decide_eq_true (show x.2.2.2.2.2.2.2.1.length < 4611686018427387904 by omega), decide_eq_true (by simp [bytesMost]; omega)⟩
theorem okmOf {x : Ev} (h : x.2.2.2.2.2.2.2.1.length ≤ 20) : Ev.okm x = true := decide_eq_true (show x.2.2.2.2.2.2.2.1.length < 4611686018427387904 by omega)
theorem few_okC {l : List Ev} (h : fewS l = true) : okC10 l = true ∧ okC l = true ∧ l.length ≤ 6 ∧ ∀ e ∈ l, e.2.1.length ≤ 20 ∧ e.2.2.1.length ≤ 20 ∧ e.2.2.2.2.2.2.2.1.length ≤ 20 := by
 simp only [fewS, Bool.and_eq_true, decide_eq_true_eq] at h
 obtain ⟨h1, h2⟩ := h
 rw [List.take_of_length_le (by omega), List.all_eq_true] at h1
 have hb : ∀ e ∈ l, e.2.1.length ≤ 20 ∧ e.2.2.1.length ≤ 20 ∧ e.2.2.2.2.2.2.2.1.length ≤ 20 := fun e he => by
  have := h1 e he
  simp only [Ev.fewB, Bool.and_eq_true, decide_eq_true_eq] at this
  exact ⟨this.1, this.2.1, this.2.2.1⟩
 have ho : oksE l = true := by
  unfold oksE
  rw [Bool.and_eq_true]
  exact ⟨List.all_eq_true.2 fun e he => okmOf (hb e he).2.2, decide_eq_true (by omega)⟩
 refine ⟨?_, ?_, h2, hb⟩
 ·unfold okC10; rw [ho, Bool.true_and]; exact decide_eq_true (by omega)
 ·unfold okC; rw [ho, Bool.true_and]; exact decide_eq_true (by omega)
theorem same_self (x : Ev) : Ev.same x x = true := (Ev.same_iff x x).2 rfl
theorem rise_marks (e : Ev) (b : Int × Int) : (e.rise b).2.2.2.2.2.2.2.1 = e.2.2.2.2.2.2.2.1 := rfl
theorem f7_loop {R : Type} (kk : V → List Ob → Option R) (l : List Ev) (b : Int × Int) (hl : l.length ≤ 6) (h0 : 0 < l.length) (hC : okC10 l = true) (hb : ∀ e ∈ l, e.2.2.2.2.2.2.2.1.length ≤ 20) : ∀ (d i : Nat), i + d = l.length → (∀ e ∈ l.take i, (Ev.up e b).2 = 0) →
  ∃ N, vrun (E22 8) f7cuts 0 100000 (k7 kk) N f7t6 (f7s1 l i b ((l.take i).map (Ev.rise b))) = kk (.bool true) [] := by
 intro d
 induction d with
 | zero =>
   intro i hi hu
   rw [show i = l.length by omega, List.take_length] at hu ⊢
   refine ⟨1, ?_⟩
   obtain ⟨g1, g2⟩ := chordS_up hu
   have ho : okC10 (l.map (Ev.rise b)) = true := by
    unfold okC10 oksE
    rw [Bool.and_eq_true, Bool.and_eq_true]
    refine ⟨⟨List.all_eq_true.2 fun e he => ?_, decide_eq_true (by rw [List.length_map]; omega)⟩, decide_eq_true (by rw [List.length_map]; omega)⟩
    obtain ⟨e', he', rfl⟩ := List.mem_map.1 he
    exact okmOf (by rw [rise_marks]; exact hb e' he')
   rw [vrun_succ, f7_1, bif_neg (by exact decide_eq_false (by omega)), ho, cond_true, hC, cond_true, g1]
   by_cases hz : (chordS l).2 = 0
   ·have hup := g2 hz
    have hs := chordS_short l
    rw [decide_eq_true hz, Bool.not_true, cond_false, cond_false, okUpOf (by omega), cond_true, hup, chordS_smallB, same_self]
    rfl
   ·rw [decide_eq_false hz, Bool.not_false, cond_true, decide_eq_true (show (chordS l).2 = (chordS l).2 from rfl)]
 | succ d ih =>
   intro i hi hu
   have hlt : i < l.length := by omega
   have hbi := hb _ (List.getElem_mem hlt)
   by_cases hz : (Ev.up l[i] b).2 = 0
   ·obtain ⟨N, hN⟩ := ih (i + 1) (by omega) (fun e he => by
      have et : l.take (i + 1) = l.take i ++ [l[i]] := by simp
      rw [et, List.mem_append] at he
      rcases he with he | he
      ·exact hu e he
      ·simp at he; rw [he]; exact hz)
    refine ⟨N + 1, ?_⟩
    have et : (l.take (i + 1)).map (Ev.rise b) = (l.take i).map (Ev.rise b) ++ [(Ev.up l[i] b).1] := by
     rw [show l.take (i + 1) = l.take i ++ [l[i]] by simp, List.map_append, (Ev.up_ok hz).2.1]; rfl
    rw [et] at hN
    rw [vrun_succ, f7_1, bif_pos (by exact decide_eq_true (by omega)), idxL hlt]
    dsimp only
    rw [okUpOf hbi, cond_true, decide_eq_true hz, Bool.not_true, cond_false, bif_pos (by exact decide_eq_true (by rw [List.length_map, List.length_take]; simp [bytesMost]; omega)), wrap_succ (by omega)]
    exact hN
   ·refine ⟨1, ?_⟩
    rw [vrun_succ, f7_1, bif_pos (by exact decide_eq_true (by omega)), idxL hlt]
    dsimp only
    rw [okUpOf hbi, cond_true, decide_eq_false hz]
    rfl
theorem f7_run {R : Type} (kk : V → List Ob → Option R) (l : List Ev) (b : Int × Int) :
  ∃ N, vrun (E22 8) f7cuts 0 100000 (k7 kk) N [.code (fb Tryd.f7).2] (start [enc false srE l, enc true rIv b] []) = kk (.bool true) [] := by
 cases h : fewS l with
 | false =>
   refine ⟨1, ?_⟩
   rw [vrun_succ, f7_go, h]
   rfl
 | true =>
   obtain ⟨h1, _, h3, hb⟩ := few_okC h
   have main : ∃ N, vrun (E22 8) f7cuts 0 100000 (k7 kk) N f7t6 (f7s0 l 0 b) = kk (.bool true) [] := by
    by_cases h0 : l.length = 0
    ·refine ⟨1, ?_⟩
     have e0 : l = [] := List.length_eq_zero_iff.1 h0
     subst e0
     rw [vrun_succ, f7_0, h1]
     rfl
    ·have hlt : 0 < l.length := by omega
     have hbi := (hb _ (List.getElem_mem hlt)).2.2
     by_cases hz : (Ev.up l[0] b).2 = 0
     ·have e1 : l.take 1 = [l[0]] := by
        cases l with
        | nil => cases hlt
        | cons a r => rfl
      obtain ⟨N, hN⟩ := f7_loop kk l b h3 hlt h1 (fun e he => (hb e he).2.2) (l.length - 1) 1 (by omega) (fun e he => by
       rw [e1] at he; simp at he; rw [he]; exact hz)
      rw [e1, show [l[0]].map (Ev.rise b) = [(Ev.up l[0] b).1] by rw [(Ev.up_ok hz).2.1]; rfl] at hN
      refine ⟨N + 1, ?_⟩
      rw [vrun_succ, f7_0, bif_pos (by exact decide_eq_true (by omega)), idx_get l (0 : Int) 0 rfl, List.getElem?_eq_getElem hlt]
      dsimp only
      rw [okUpOf hbi, cond_true, decide_eq_true hz, Bool.not_true, cond_false, w64 (n := 0 + 1) (by decide) (by decide)]
      exact hN
     ·refine ⟨1, ?_⟩
      rw [vrun_succ, f7_0, bif_pos (by exact decide_eq_true (by omega)), idx_get l (0 : Int) 0 rfl, List.getElem?_eq_getElem hlt]
      dsimp only
      rw [okUpOf hbi, cond_true, decide_eq_false hz]
      rfl
   obtain ⟨N, hN⟩ := main
   refine ⟨N + 1, ?_⟩
   rw [vrun_succ, f7_go, h]
   exact hN
end Vm.S6b
namespace Go.Proofs.YtlbkefgnblajlaaDoor
open Go.ChangeShapes Go.WideShapes Go.ChangeAt Go.WideMaps Go.WideElems Go.RowKit Vm
theorem own : ownKnob Tryd.prog.godebug = none := by kernel_rfl
theorem laidOut : laidOutB Tryd.prog = true := by kernel_rfl
theorem g_dotted : Tryd.prog.globalNamed "partita/value.dotted" = some 0 := by kernel_rfl
theorem g_half : Tryd.prog.globalNamed "partita/pitch.halfTones" = some 1 := by kernel_rfl
theorem t_dotted : (Tryd.prog.globals[0]?).map (·.type) = some 89 := by kernel_rfl
theorem t_half : (Tryd.prog.globals[1]?).map (·.type) = some 109 := by kernel_rfl
abbrev theLaid : List (String × DataW Unit) := [("unicode/utf8.acceptRanges", Rows.laid_unicode_utf8_acceptRanges), ("partita/pitch.halfTones", Rows.laid_partita_pitch_halfTones), ("partita/value.dotted", Rows.laid_partita_value_dotted), ("unicode/utf8.first", Rows.laid_unicode_utf8_first)]
theorem g_first : Tryd.prog.globalNamed "unicode/utf8.first" = some 2 := by kernel_rfl
theorem g_accept : Tryd.prog.globalNamed "unicode/utf8.acceptRanges" = some 3 := by kernel_rfl
theorem t_first : (Tryd.prog.globals[2]?).map (·.type) = some 115 := by kernel_rfl
theorem t_accept : (Tryd.prog.globals[3]?).map (·.type) = some 118 := by kernel_rfl
theorem globs {W : World} (h : laidMetH Tryd.prog theLaid W) : ∀ g r xs, S6b.gls.g g = some ⟨r, xs⟩ → allOld W g ∧ ∀ (i : Nat) x, xs[i]? = some x → Ks.Rep W (allOld W) r x g (i * r.len) := by
 rw [MakeChecks.laidMetH_plain _ _ _ (by kernel_rfl)] at h
 obtain ⟨ps, ⟨g0, t0, cs0, f0, p0, q0, hg0, ht0, hv0, hd0, ⟨g1, t1, cs1, f1, p1, q1, hg1, ht1, hv1, hd1, ⟨g2, t2, cs2, f2, p2, q2, hg2, ht2, hv2, hd2, ⟨g3, t3, cs3, f3, p3, q3, hg3, ht3, hv3, hd3, _, _⟩, _⟩, _⟩, _⟩, _, _⟩ := h
 intro g r xs hg
 have h0 := glob_of (name := "partita/value.dotted") g_dotted t_dotted (.cons (.int .i64) (.cons (.int .i64) .nil)) glDotted (by kernel_rfl) (by kernel_rfl) (by decide) (by rfl) hg2 ht2 hv2 hd2
 have h1 := glob_of (name := "partita/pitch.halfTones") g_half t_half (.cons (.int .i64) .nil) glHalf (by kernel_rfl) (by kernel_rfl) (by decide) (by rfl) hg1 ht1 hv1 hd1
 have h2 := glob_of (name := "unicode/utf8.first") g_first t_first (.cons (.int .u8) .nil) utf8First (by kernel_rfl) (by kernel_rfl) (by decide) (by rfl) hg3 ht3 hv3 hd3
 have h3 := glob_of (name := "unicode/utf8.acceptRanges") g_accept t_accept (.cons (.int .u8) (.cons (.int .u8) .nil)) utf8Accept (by kernel_rfl) (by kernel_rfl) (by decide) (by rfl) hg0 ht0 hv0 hd0
 simp only [S6b.gls, Vm.look] at hg
 split at hg
 ·rename_i e; subst e; cases hg; exact h0
 ·split at hg
  ·rename_i e; subst e; cases hg; exact h1
  ·split at hg
   ·rename_i e; subst e; cases hg; exact h2
   ·split at hg
    ·rename_i e; subst e; cases hg; exact h3
    ·cases hg
noncomputable abbrev W0 (os : Os) : World := World.laidAll Tryd.prog os theLaid
theorem laid_met (os : Os) (args : Array Value) : laidMetH Tryd.prog theLaid ((W0 os).forCall (fun _ _ => 0) ⟨#[], args, []⟩).memory := by
 rw [MakeChecks.laidMetH_plain _ _ _ (by kernel_rfl)]
 exact laidMet_laidAll _ (by kernel_rfl) (by kernel_rfl)
theorem shaped (os : Os) : (W0 os).Shaped Tryd.prog := World.shaped_of_ZipB (by kernel_rfl) (by kernel_rfl)
abbrev wIv : Value := .agg #[.int .i64 0, .int .i64 0]
end Go.Proofs.YtlbkefgnblajlaaDoor
