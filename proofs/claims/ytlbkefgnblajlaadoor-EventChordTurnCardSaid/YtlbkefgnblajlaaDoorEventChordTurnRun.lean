/- The statement, as a run of the value machine. -/
import Derived.Test.YtlbkefgnblajlaaDoorLawF
import Derived.Test.YtlbkefgnblajlaaDoorVmE
import Derived.KernelRfl
import Derived.Test.YtlbkefgnblajlaaDoorWords
import Derived.Test.YtlbkefgnblajlaaDoorEnv
import Derived.Lay
import Derived.Test.YtlbkefgnblajlaaDoorRows
set_option maxRecDepth 100000
open Go Go.Proofs Go.IntKind
namespace Vm.S6b
variable {R : Type} (J : List Item → St → Option R) (kk : V → List Ob → Option R)
noncomputable abbrev k3 {Q : Type} (k : V → List Ob → Option Q) := vend (E22 8) 0 (fb Tryd.f3).1.results.toList false k
noncomputable abbrev k4 {Q : Type} (k : V → List Ob → Option Q) := vend (E22 8) 0 (fb Tryd.f4).1.results.toList false k
noncomputable abbrev f5cuts : Cuts := fun _ => none
noncomputable abbrev k5 {Q : Type} (k : V → List Ob → Option Q) := vend (E22 8) 0 (fb Tryd.f5).1.results.toList false k
theorem f5_go (x y : Ev) :
 vseg (E22 8) f5cuts 0 J (k5 kk) 100000 true [.code (fb Tryd.f5).2] (start ([enc true rEvent x, enc true rEvent y]) ([])) =
 (bif decide ((↑(List.length x.snd.fst) : Int) ≤ (20 : Int)) then
 (bif decide ((↑(List.length x.snd.snd.fst) : Int) ≤ (20 : Int)) then
 (bif decide ((↑(List.length x.snd.snd.snd.snd.snd.snd.snd.fst) : Int) ≤ (20 : Int)) then
 (bif !decide ((↑(List.length x.snd.snd.snd.snd.snd.snd.snd.snd) : Int) ≤ (100 : Int)) then
 kk (V.bool true) ([])
 else (bif decide ((↑(List.length y.snd.fst) : Int) ≤ (20 : Int)) then
 (bif decide ((↑(List.length y.snd.snd.fst) : Int) ≤ (20 : Int)) then
 (bif decide ((↑(List.length y.snd.snd.snd.snd.snd.snd.snd.fst) : Int) ≤ (20 : Int)) then
 (bif !decide ((↑(List.length y.snd.snd.snd.snd.snd.snd.snd.snd) : Int) ≤ (100 : Int)) then
 kk (V.bool true) ([])
 else (bif okC10 (((List.replicate (2 : Nat) (Int.ofNat (0 : Nat), [], [], Int.ofNat (0 : Nat), Int.ofNat (0 : Nat), Int.ofNat (0 : Nat), Int.ofNat (0 : Nat), [], [])).set (0 : Nat) x).set (1 : Nat) y) then
 (bif okC10 (((List.replicate (2 : Nat) (Int.ofNat (0 : Nat), [], [], Int.ofNat (0 : Nat), Int.ofNat (0 : Nat), Int.ofNat (0 : Nat), Int.ofNat (0 : Nat), [], [])).set (0 : Nat) y).set (1 : Nat) x) then
 (bif !decide ((chordS (((List.replicate (2 : Nat) (Int.ofNat (0 : Nat), [], [], Int.ofNat (0 : Nat), Int.ofNat (0 : Nat), Int.ofNat (0 : Nat), Int.ofNat (0 : Nat), [], [])).set (0 : Nat) x).set (1 : Nat) y)).snd = (chordS (((List.replicate (2 : Nat) (Int.ofNat (0 : Nat), [], [], Int.ofNat (0 : Nat), Int.ofNat (0 : Nat), Int.ofNat (0 : Nat), Int.ofNat (0 : Nat), [], [])).set (0 : Nat) y).set (1 : Nat) x)).snd) then
 kk (V.bool false) ([])
 else (bif (chordS (((List.replicate (2 : Nat) (Int.ofNat (0 : Nat), [], [], Int.ofNat (0 : Nat), Int.ofNat (0 : Nat), Int.ofNat (0 : Nat), Int.ofNat (0 : Nat), [], [])).set (0 : Nat) x).set (1 : Nat) y)).fst.small then
 kk (V.bool ((chordS (((List.replicate (2 : Nat) (Int.ofNat (0 : Nat), [], [], Int.ofNat (0 : Nat), Int.ofNat (0 : Nat), Int.ofNat (0 : Nat), Int.ofNat (0 : Nat), [], [])).set (0 : Nat) x).set (1 : Nat) y)).fst.same ((chordS (((List.replicate (2 : Nat) (Int.ofNat (0 : Nat), [], [], Int.ofNat (0 : Nat), Int.ofNat (0 : Nat), Int.ofNat (0 : Nat), Int.ofNat (0 : Nat), [], [])).set (0 : Nat) y).set (1 : Nat) x)).fst.fst, (chordS (((List.replicate (2 : Nat) (Int.ofNat (0 : Nat), [], [], Int.ofNat (0 : Nat), Int.ofNat (0 : Nat), Int.ofNat (0 : Nat), Int.ofNat (0 : Nat), [], [])).set (0 : Nat) y).set (1 : Nat) x)).fst.snd.fst, (chordS (((List.replicate (2 : Nat) (Int.ofNat (0 : Nat), [], [], Int.ofNat (0 : Nat), Int.ofNat (0 : Nat), Int.ofNat (0 : Nat), Int.ofNat (0 : Nat), [], [])).set (0 : Nat) y).set (1 : Nat) x)).fst.snd.snd.fst, (chordS (((List.replicate (2 : Nat) (Int.ofNat (0 : Nat), [], [], Int.ofNat (0 : Nat), Int.ofNat (0 : Nat), Int.ofNat (0 : Nat), Int.ofNat (0 : Nat), [], [])).set (0 : Nat) y).set (1 : Nat) x)).fst.snd.snd.snd.fst, (chordS (((List.replicate (2 : Nat) (Int.ofNat (0 : Nat), [], [], Int.ofNat (0 : Nat), Int.ofNat (0 : Nat), Int.ofNat (0 : Nat), Int.ofNat (0 : Nat), [], [])).set (0 : Nat) y).set (1 : Nat) x)).fst.snd.snd.snd.snd.fst, (chordS (((List.replicate (2 : Nat) (Int.ofNat (0 : Nat), [], [], Int.ofNat (0 : Nat), Int.ofNat (0 : Nat), Int.ofNat (0 : Nat), Int.ofNat (0 : Nat), [], [])).set (0 : Nat) y).set (1 : Nat) x)).fst.snd.snd.snd.snd.snd.fst, (chordS (((List.replicate (2 : Nat) (Int.ofNat (0 : Nat), [], [], Int.ofNat (0 : Nat), Int.ofNat (0 : Nat), Int.ofNat (0 : Nat), Int.ofNat (0 : Nat), [], [])).set (0 : Nat) y).set (1 : Nat) x)).fst.snd.snd.snd.snd.snd.snd.fst, (chordS (((List.replicate (2 : Nat) (Int.ofNat (0 : Nat), [], [], Int.ofNat (0 : Nat), Int.ofNat (0 : Nat), Int.ofNat (0 : Nat), Int.ofNat (0 : Nat), [], [])).set (0 : Nat) y).set (1 : Nat) x)).fst.snd.snd.snd.snd.snd.snd.snd.fst, (chordS (((List.replicate (2 : Nat) (Int.ofNat (0 : Nat), [], [], Int.ofNat (0 : Nat), Int.ofNat (0 : Nat), Int.ofNat (0 : Nat), Int.ofNat (0 : Nat), [], [])).set (0 : Nat) x).set (1 : Nat) y)).fst.snd.snd.snd.snd.snd.snd.snd.snd))) ([])
 else none))
 else none)
 else none))
 else kk (V.bool true) ([]))
 else kk (V.bool true) ([]))
 else kk (V.bool true) ([])))
 else kk (V.bool true) ([]))
 else kk (V.bool true) ([]))
 else kk (V.bool true) ([])) := by kernel_rfl
noncomputable abbrev k6 {Q : Type} (k : V → List Ob → Option Q) := vend (E22 8) 0 (fb Tryd.f6).1.results.toList false k
noncomputable abbrev k7 {Q : Type} (k : V → List Ob → Option Q) := vend (E22 8) 0 (fb Tryd.f7).1.results.toList false k
end Vm.S6b
open Go Go.Proofs
namespace Vm.S6b
theorem smallOf {x : Ev} (h : x.2.1.length ≤ 20 ∧ x.2.2.1.length ≤ 20 ∧ x.2.2.2.2.2.2.2.1.length ≤ 20) : Ev.small x = true := Ev.small_of (by omega) (by omega) (by omega)
theorem chordS_smallB (l : List Ev) : Ev.small (chordS l).1 = true := by
 have := chordS_short l
 exact smallOf ⟨by omega, by omega, by omega⟩
theorem okmOf {x : Ev} (h : x.2.2.2.2.2.2.2.1.length ≤ 20) : Ev.okm x = true := decide_eq_true (show x.2.2.2.2.2.2.2.1.length < 4611686018427387904 by omega)
theorem okTwo {x y : Ev} (h : x.2.2.2.2.2.2.2.1.length ≤ 20) (h' : y.2.2.2.2.2.2.2.1.length ≤ 20) : okC10 [x, y] = true := by
 unfold okC10 oksE
 rw [Bool.and_eq_true, Bool.and_eq_true]
 refine ⟨⟨List.all_eq_true.2 fun e he => ?_, decide_eq_true (by simp)⟩, decide_eq_true (by simp)⟩
 rcases List.mem_cons.1 he with rfl | he
 ·exact okmOf h
 ·rw [List.mem_singleton.1 he]; exact okmOf h'
theorem f5_run {R : Type} (kk : V → List Ob → Option R) (x y : Ev) :
  vrun (E22 8) f5cuts 0 100000 (k5 kk) 1 [.code (fb Tryd.f5).2] (start [enc true rEvent x, enc true rEvent y] []) = kk (.bool true) [] := by
 rw [vrun_succ, f5_go]
 have eD : ∀ x y : Ev, ((List.replicate 2 ((Int.ofNat 0, [], [], Int.ofNat 0, Int.ofNat 0, Int.ofNat 0, Int.ofNat 0, [], []) : Ev)).set 0 x).set 1 y = [x, y] := fun _ _ => rfl
 refine bif_same (fun h1 => bif_same (fun h2 => bif_same (fun h3 => bif_same (fun _ => rfl) (fun h4 => ?_)) (fun _ => rfl)) (fun _ => rfl)) (fun _ => rfl)
 refine bif_same (fun g1 => bif_same (fun g2 => bif_same (fun g3 => bif_same (fun _ => rfl) (fun g4 => ?_)) (fun _ => rfl)) (fun _ => rfl)) (fun _ => rfl)
 have h3 := of_decide_eq_true h3
 have g3 := of_decide_eq_true g3
 have hm : x.2.2.2.2.2.2.2.1.length ≤ 20 := by omega
 have gm : y.2.2.2.2.2.2.2.1.length ≤ 20 := by omega
 simp only [eD]
 rw [okTwo hm gm, cond_true, okTwo gm hm, cond_true, chordS_smallB, cond_true]
 obtain ⟨t1, t2⟩ := chordS_turn x y
 rw [decide_eq_true t1, Bool.not_true, cond_false]
 exact congrArg (fun z => kk (.bool z) []) (t2 [])
end Vm.S6b
namespace Go.Proofs.YtlbkefgnblajlaaDoor
open Go.ChangeShapes Go.WideShapes Go.ChangeAt Go.WideMaps Go.WideElems Go.RowKit Vm
theorem own : ownKnob Tryd.prog.godebug = none := by kernel_rfl
theorem laidOut : laidOutB Tryd.prog = true := by kernel_rfl
theorem g_dotted : Tryd.prog.globalNamed "partita/value.dotted" = some 0 := by kernel_rfl
theorem g_half : Tryd.prog.globalNamed "partita/pitch.halfTones" = some 1 := by kernel_rfl
theorem t_dotted : (Tryd.prog.globals[0]?).map (·.type) = some 89 := by kernel_rfl
theorem t_half : (Tryd.prog.globals[1]?).map (·.type) = some 109 := by kernel_rfl
abbrev theLaid : List (String × DataW Unit) := [("unicode/utf8.acceptRanges", Rows.laid_unicode_utf8_acceptRanges), ("partita/pitch.halfTones", Rows.laid_partita_pitch_halfTones), ("partita/value.dotted", Rows.laid_partita_value_dotted), ("unicode/utf8.first", Rows.laid_unicode_utf8_first)]
theorem g_first : Tryd.prog.globalNamed "unicode/utf8.first" = some 2 := by kernel_rfl
theorem g_accept : Tryd.prog.globalNamed "unicode/utf8.acceptRanges" = some 3 := by kernel_rfl
theorem t_first : (Tryd.prog.globals[2]?).map (·.type) = some 115 := by kernel_rfl
theorem t_accept : (Tryd.prog.globals[3]?).map (·.type) = some 118 := by kernel_rfl
theorem globs {W : World} (h : laidMetH Tryd.prog theLaid W) : ∀ g r xs, S6b.gls.g g = some ⟨r, xs⟩ → allOld W g ∧ ∀ (i : Nat) x, xs[i]? = some x → Ks.Rep W (allOld W) r x g (i * r.len) := by
 rw [MakeChecks.laidMetH_plain _ _ _ (by kernel_rfl)] at h
 obtain ⟨ps, ⟨g0, t0, cs0, f0, p0, q0, hg0, ht0, hv0, hd0, ⟨g1, t1, cs1, f1, p1, q1, hg1, ht1, hv1, hd1, ⟨g2, t2, cs2, f2, p2, q2, hg2, ht2, hv2, hd2, ⟨g3, t3, cs3, f3, p3, q3, hg3, ht3, hv3, hd3, _, _⟩, _⟩, _⟩, _⟩, _, _⟩ := h
 intro g r xs hg
 have h0 := glob_of (name := "partita/value.dotted") g_dotted t_dotted (.cons (.int .i64) (.cons (.int .i64) .nil)) glDotted (by kernel_rfl) (by kernel_rfl) (by decide) (by rfl) hg2 ht2 hv2 hd2
 have h1 := glob_of (name := "partita/pitch.halfTones") g_half t_half (.cons (.int .i64) .nil) glHalf (by kernel_rfl) (by kernel_rfl) (by decide) (by rfl) hg1 ht1 hv1 hd1
 have h2 := glob_of (name := "unicode/utf8.first") g_first t_first (.cons (.int .u8) .nil) utf8First (by kernel_rfl) (by kernel_rfl) (by decide) (by rfl) hg3 ht3 hv3 hd3
 have h3 := glob_of (name := "unicode/utf8.acceptRanges") g_accept t_accept (.cons (.int .u8) (.cons (.int .u8) .nil)) utf8Accept (by kernel_rfl) (by kernel_rfl) (by decide) (by rfl) hg0 ht0 hv0 hd0
 simp only [S6b.gls, Vm.look] at hg
 split at hg
 ·rename_i e; subst e; cases hg; exact h0
 ·split at hg
  ·rename_i e; subst e; cases hg; exact h1
  ·split at hg
   ·rename_i e; subst e; cases hg; exact h2
   ·split at hg
    ·rename_i e; subst e; cases hg; exact h3
    ·cases hg
noncomputable abbrev W0 (os : Os) : World := World.laidAll Tryd.prog os theLaid
theorem laid_met (os : Os) (args : Array Value) : laidMetH Tryd.prog theLaid ((W0 os).forCall (fun _ _ => 0) ⟨#[], args, []⟩).memory := by
 rw [MakeChecks.laidMetH_plain _ _ _ (by kernel_rfl)]
 exact laidMet_laidAll _ (by kernel_rfl) (by kernel_rfl)
theorem shaped (os : Os) : (W0 os).Shaped Tryd.prog := World.shaped_of_ZipB (by kernel_rfl) (by kernel_rfl)
def wEv : Value := .agg #[.int .i64 0, .slice none 0 0, .slice none 0 0, .int .i64 0, .int .i64 0, .int .i64 0, .int .i64 0, .slice none 0 0, .string ⟨#[]⟩]
end Go.Proofs.YtlbkefgnblajlaaDoor
