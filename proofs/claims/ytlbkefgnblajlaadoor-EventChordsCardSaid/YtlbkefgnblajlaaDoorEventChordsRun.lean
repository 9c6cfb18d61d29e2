/- The statement, as a run of the value machine. -/
import Derived.Test.YtlbkefgnblajlaaDoorLawF
import Derived.Test.YtlbkefgnblajlaaDoorVmE
import Derived.KernelRfl
import Derived.Test.YtlbkefgnblajlaaDoorWords
import Derived.Test.YtlbkefgnblajlaaDoorEnv
import Derived.Lay
import Derived.Test.YtlbkefgnblajlaaDoorRows
set_option maxRecDepth 100000
open Go Go.Proofs Go.IntKind
namespace Vm.S6b
variable {R : Type} (J : List Item → St → Option R) (kk : V → List Ob → Option R)
noncomputable abbrev f3cuts : Cuts := fun _ => none
noncomputable abbrev k3 {Q : Type} (k : V → List Ob → Option Q) := vend (E22 8) 0 (fb Tryd.f3).1.results.toList false k
theorem f3_go (l : List Ev) :
 vseg (E22 8) f3cuts 0 J (k3 kk) 100000 true [.code (fb Tryd.f3).2] (start ([enc false srE l]) ([])) =
 (bif !fewS l then
 kk (V.bool true) ([])
 else (bif okC10 l then
 (bif okC l then
 (bif (chordS l).fst.small then
 (bif (chordS l).fst.same (chordS l).fst then
 kk (V.bool (decide ((chordS l).snd = (chordS l).snd))) ([])
 else kk (V.bool false) ([]))
 else none)
 else none)
 else none)) := by kernel_rfl
noncomputable abbrev k4 {Q : Type} (k : V → List Ob → Option Q) := vend (E22 8) 0 (fb Tryd.f4).1.results.toList false k
noncomputable abbrev k5 {Q : Type} (k : V → List Ob → Option Q) := vend (E22 8) 0 (fb Tryd.f5).1.results.toList false k
noncomputable abbrev k6 {Q : Type} (k : V → List Ob → Option Q) := vend (E22 8) 0 (fb Tryd.f6).1.results.toList false k
noncomputable abbrev k7 {Q : Type} (k : V → List Ob → Option Q) := vend (E22 8) 0 (fb Tryd.f7).1.results.toList false k
end Vm.S6b
open Go Go.Proofs
namespace Vm.S6b
theorem smallOf {x : Ev} (h : x.2.1.length ≤ 20 ∧ x.2.2.1.length ≤ 20 ∧ x.2.2.2.2.2.2.2.1.length ≤ 20) : Ev.small x = true := Ev.small_of (by omega) (by omega) (by omega)
theorem chordS_smallB (l : List Ev) : Ev.small (chordS l).1 = true := by
 have := chordS_short l
 exact smallOf ⟨by omega, by omega, by omega⟩
theorem okmOf {x : Ev} (h : x.2.2.2.2.2.2.2.1.length ≤ 20) : Ev.okm x = true := decide_eq_true (show x.2.2.2.2.2.2.2.1.length < 4611686018427387904 by omega)
theorem few_okC {l : List Ev} (h : fewS l = true) : okC10 l = true ∧ okC l = true ∧ l.length ≤ 6 ∧ ∀ e ∈ l, e.2.1.length ≤ 20 ∧ e.2.2.1.length ≤ 20 ∧ e.2.2.2.2.2.2.2.1.length ≤ 20 := by
 simp only [fewS, Bool.and_eq_true, decide_eq_true_eq] at h
 obtain ⟨h1, h2⟩ := h
 rw [List.take_of_length_le (by omega), List.all_eq_true] at h1
 have hb : ∀ e ∈ l, e.2.1.length ≤ 20 ∧ e.2.2.1.length ≤ 20 ∧ e.2.2.2.2.2.2.2.1.length ≤ 20 := fun e he => by
  have := h1 e he
  simp only [Ev.fewB, Bool.and_eq_true, decide_eq_true_eq] at this
  exact ⟨this.1, this.2.1, this.2.2.1⟩
 have ho : oksE l = true := by
  unfold oksE
  rw [Bool.and_eq_true]
  exact ⟨List.all_eq_true.2 fun e he => okmOf (hb e he).2.2, decide_eq_true (by omega)⟩
 refine ⟨?_, ?_, h2, hb⟩
 ·unfold okC10; rw [ho, Bool.true_and]; exact decide_eq_true (by omega)
 ·unfold okC; rw [ho, Bool.true_and]; exact decide_eq_true (by omega)
theorem same_self (x : Ev) : Ev.same x x = true := (Ev.same_iff x x).2 rfl
theorem f3_run {R : Type} (kk : V → List Ob → Option R) (l : List Ev) :
  vrun (E22 8) f3cuts 0 100000 (k3 kk) 1 [.code (fb Tryd.f3).2] (start [enc false srE l] []) = kk (.bool true) [] := by
 rw [vrun_succ, f3_go]
 cases h : fewS l with
 | false => rfl
 | true =>
   obtain ⟨h1, h2, _⟩ := few_okC h
   rw [h1, h2, chordS_smallB, same_self, decide_eq_true (show (chordS l).2 = (chordS l).2 from rfl)]
   rfl
end Vm.S6b
namespace Go.Proofs.YtlbkefgnblajlaaDoor
open Go.ChangeShapes Go.WideShapes Go.ChangeAt Go.WideMaps Go.WideElems Go.RowKit Vm
theorem own : ownKnob Tryd.prog.godebug = none := by kernel_rfl
theorem laidOut : laidOutB Tryd.prog = true := by kernel_rfl
theorem g_dotted : Tryd.prog.globalNamed "partita/value.dotted" = some 0 := by kernel_rfl
theorem g_half : Tryd.prog.globalNamed "partita/pitch.halfTones" = some 1 := by kernel_rfl
theorem t_dotted : (Tryd.prog.globals[0]?).map (·.type) = some 89 := by kernel_rfl
theorem t_half : (Tryd.prog.globals[1]?).map (·.type) = some 109 := by kernel_rfl
abbrev theLaid : List (String × DataW Unit) := [("unicode/utf8.acceptRanges", Rows.laid_unicode_utf8_acceptRanges), ("partita/pitch.halfTones", Rows.laid_partita_pitch_halfTones), ("partita/value.dotted", Rows.laid_partita_value_dotted), ("unicode/utf8.first", Rows.laid_unicode_utf8_first)]
theorem g_first : Tryd.prog.globalNamed "unicode/utf8.first" = some 2 := by kernel_rfl
theorem g_accept : Tryd.prog.globalNamed "unicode/utf8.acceptRanges" = some 3 := by kernel_rfl
theorem t_first : (Tryd.prog.globals[2]?).map (·.type) = some 115 := by kernel_rfl
theorem t_accept : (Tryd.prog.globals[3]?).map (·.type) = some 118 := by kernel_rfl
theorem globs {W : World} (h : laidMetH Tryd.prog theLaid W) : ∀ g r xs, S6b.gls.g g = some ⟨r, xs⟩ → allOld W g ∧ ∀ (i : Nat) x, xs[i]? = some x → Ks.Rep W (allOld W) r x g (i * r.len) := by
 rw [MakeChecks.laidMetH_plain _ _ _ (by kernel_rfl)] at h
 obtain ⟨ps, ⟨g0, t0, cs0, f0, p0, q0, hg0, ht0, hv0, hd0, ⟨g1, t1, cs1, f1, p1, q1, hg1, ht1, hv1, hd1, ⟨g2, t2, cs2, f2, p2, q2, hg2, ht2, hv2, hd2, ⟨g3, t3, cs3, f3, p3, q3, hg3, ht3, hv3, hd3, _, _⟩, _⟩, _⟩, _⟩, _, _⟩ := h
 intro g r xs hg
 have h0 := glob_of (name := "partita/value.dotted") g_dotted t_dotted (.cons (.int .i64) (.cons (.int .i64) .nil)) glDotted (by kernel_rfl) (by kernel_rfl) (by decide) (by rfl) hg2 ht2 hv2 hd2
 have h1 := glob_of (name := "partita/pitch.halfTones") g_half t_half (.cons (.int .i64) .nil) glHalf (by kernel_rfl) (by kernel_rfl) (by decide) (by rfl) hg1 ht1 hv1 hd1
 have h2 := glob_of (name := "unicode/utf8.first") g_first t_first (.cons (.int .u8) .nil) utf8First (by kernel_rfl) (by kernel_rfl) (by decide) (by rfl) hg3 ht3 hv3 hd3
 have h3 := glob_of (name := "unicode/utf8.acceptRanges") g_accept t_accept (.cons (.int .u8) (.cons (.int .u8) .nil)) utf8Accept (by kernel_rfl) (by kernel_rfl) (by decide) (by rfl) hg0 ht0 hv0 hd0
 simp only [S6b.gls, Vm.look] at hg
 split at hg
 ·rename_i e; subst e; cases hg; exact h0
 ·split at hg
  ·rename_i e; subst e; cases hg; exact h1
  ·split at hg
   ·rename_i e; subst e; cases hg; exact h2
   ·split at hg
    ·rename_i e; subst e; cases hg; exact h3
    ·cases hg
noncomputable abbrev W0 (os : Os) : World := World.laidAll Tryd.prog os theLaid
theorem laid_met (os : Os) (args : Array Value) : laidMetH Tryd.prog theLaid ((W0 os).forCall (fun _ _ => 0) ⟨#[], args, []⟩).memory := by
 rw [MakeChecks.laidMetH_plain _ _ _ (by kernel_rfl)]
 exact laidMet_laidAll _ (by kernel_rfl) (by kernel_rfl)
theorem shaped (os : Os) : (W0 os).Shaped Tryd.prog := World.shaped_of_ZipB (by kernel_rfl) (by kernel_rfl)
end Go.Proofs.YtlbkefgnblajlaaDoor
