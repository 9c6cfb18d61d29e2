/- The statement VoiceSame, as a run of the value machine. -/
import Derived.Test.YtgkanaehhjkieaaDoorLawH
import Derived.Test.YtgkanaehhjkieaaDoorVmE
import Derived.KernelRfl
import Derived.Test.YtgkanaehhjkieaaDoorEnv
import Derived.Lay
import Derived.Test.YtgkanaehhjkieaaDoorRows
set_option maxRecDepth 100000
open Go Go.Proofs
namespace Vm.S07
noncomputable abbrev f9cuts : Cuts := fun _ => none
theorem f9_go {R : Type} (J : List Item → St → Option R) (kk : V → List Ob → Option R) (l : List Int) (m : List Int) (n : Int) :
  vseg ((E29 8)) f9cuts 0 J (vend ((E29 8)) 0 (fb Tryd.f9).1.results.toList false kk) 100000 true [.code (fb Tryd.f9).2] (start ([V.sl (Ks.cons (K.int IntKind.u8) Ks.nil) l, V.sl (Ks.cons (K.int IntKind.u8) Ks.nil) m, V.int IntKind.u8 n]) ([])) =
  (bif madeG l (10 : Int) then
    (bif madeG m (10 : Int) then
      (bif decide (List.length (madeV l (10 : Int) false) * 128 ≤ bytesMost) then
        (bif decide ((List.length (madeV l (10 : Int) false) + 1) * 128 ≤ bytesMost) then
          (bif decide (List.length (madeV l (10 : Int) false) * 128 ≤ bytesMost) then
            (bif decide ((0 : Int) < (↑(List.length (madeV l (10 : Int) false)) : Int)) then
              (bif decide ((↑(List.length (madeV l (10 : Int) false)) : Int) = (0 : Int)) then
                none
              else (match idx (madeV l (10 : Int) false) ((IntKind.i64.wrap n).tmod (↑(List.length (madeV l (10 : Int) false)) : Int)) with
                  | some y1 => (match (madeV l (10 : Int) false)[((IntKind.i64.wrap n).tmod (↑(List.length (madeV l (10 : Int) false)) : Int)).toNat]? with
                    | some y2 => (bif madeG l (10 : Int) then
                      (bif decide (List.length (madeV l (10 : Int) false) < (4611686018427387904 : Nat)) && List.all (madeV l (10 : Int) false) Ev.small then
                        (bif voSame (madeV l (10 : Int) false) (madeV l (10 : Int) false) then
                          (bif decide (List.length (madeV l (10 : Int) false) < (4611686018427387904 : Nat)) && List.all (madeV l (10 : Int) false) Ev.small then
                            (bif voSame (madeV l (10 : Int) false) (madeV l (10 : Int) false) then
                              (bif decide (List.length (madeV l (10 : Int) false) < (4611686018427387904 : Nat)) && List.all (madeV l (10 : Int) false) Ev.small then
                                (bif decide (List.length (madeV m (10 : Int) false) < (4611686018427387904 : Nat)) && List.all (madeV m (10 : Int) false) Ev.small then
                                  (bif voSame (madeV l (10 : Int) false) (madeV m (10 : Int) false) == voSame (madeV m (10 : Int) false) (madeV l (10 : Int) false) then
                                    (bif decide (List.length (madeV l (10 : Int) false) < (4611686018427387904 : Nat)) && List.all (madeV l (10 : Int) false) Ev.small then
                                      (bif !voSame (madeV l (10 : Int) false) (madeV l (10 : Int) false ++ [(Int.ofNat (0 : Nat), [], [], (2 : Int), Int.ofNat (0 : Nat), Int.ofNat (0 : Nat), Int.ofNat (0 : Nat), [], [])]) then
                                        (bif decide ((↑(List.length (madeV l (10 : Int) false)) : Int) = (0 : Int)) then
                                          kk (V.bool true) ([])
                                        else (bif decide (List.length (madeV l (10 : Int) false) < (4611686018427387904 : Nat)) && List.all (madeV l (10 : Int) false) Ev.small then
                                            kk (V.bool !voSame (madeV l (10 : Int) false) (List.set (madeV l (10 : Int) false) ((IntKind.i64.wrap n).tmod (↑(List.length (madeV l (10 : Int) false)) : Int)).toNat (y2.fst, y2.snd.fst, y2.snd.snd.fst, (6 : Int), y2.snd.snd.snd.snd))) ([])
                                          else none))
                                      else kk (V.bool false) ([]))
                                    else none)
                                  else kk (V.bool false) ([]))
                                else none)
                              else none)
                            else kk (V.bool false) ([]))
                          else none)
                        else kk (V.bool false) ([]))
                      else none)
                    else none)
                    | none => none)
                  | none => none))
            else (bif madeG l (10 : Int) then
                (bif decide (List.length (madeV l (10 : Int) false) < (4611686018427387904 : Nat)) && List.all (madeV l (10 : Int) false) Ev.small then
                  (bif voSame (madeV l (10 : Int) false) (madeV l (10 : Int) false) then
                    (bif decide (List.length (madeV l (10 : Int) false) < (4611686018427387904 : Nat)) && List.all (madeV l (10 : Int) false) Ev.small then
                      (bif voSame (madeV l (10 : Int) false) (madeV l (10 : Int) false) then
                        (bif decide (List.length (madeV l (10 : Int) false) < (4611686018427387904 : Nat)) && List.all (madeV l (10 : Int) false) Ev.small then
                          (bif decide (List.length (madeV m (10 : Int) false) < (4611686018427387904 : Nat)) && List.all (madeV m (10 : Int) false) Ev.small then
                            (bif voSame (madeV l (10 : Int) false) (madeV m (10 : Int) false) == voSame (madeV m (10 : Int) false) (madeV l (10 : Int) false) then
                              (bif decide (List.length (madeV l (10 : Int) false) < (4611686018427387904 : Nat)) && List.all (madeV l (10 : Int) false) Ev.small then
                                (bif !voSame (madeV l (10 : Int) false) (madeV l (10 : Int) false ++ [(Int.ofNat (0 : Nat), [], [], (2 : Int), Int.ofNat (0 : Nat), Int.ofNat (0 : Nat), Int.ofNat (0 : Nat), [], [])]) then
                                  (bif decide ((↑(List.length (madeV l (10 : Int) false)) : Int) = (0 : Int)) then
                                    kk (V.bool true) ([])
                                  else (bif decide (List.length (madeV l (10 : Int) false) < (4611686018427387904 : Nat)) && List.all (madeV l (10 : Int) false) Ev.small then
                                      kk (V.bool !voSame (madeV l (10 : Int) false) (madeV l (10 : Int) false)) ([])
                                    else none))
                                else kk (V.bool false) ([]))
                              else none)
                            else kk (V.bool false) ([]))
                          else none)
                        else none)
                      else kk (V.bool false) ([]))
                    else none)
                  else kk (V.bool false) ([]))
                else none)
              else none))
          else none)
        else none)
      else none)
    else none)
  else none) := by kernel_rfl

end Vm.S07

open Go Go.Proofs
namespace Vm.S07
theorem voSame_refl (a : Vo) : voSame a a = true := (voSame_iff a a).2 rfl
theorem voSame_comm (a b : Vo) : (voSame a b == voSame b a) = true := by
  rw [beq_iff_eq, Bool.eq_iff_iff, voSame_iff, voSame_iff]
  exact ⟨Eq.symm, Eq.symm⟩
theorem voSame_more (a : Vo) (x : Ev) : voSame a (a ++ [x]) = false := by
  cases h : voSame a (a ++ [x]) with
  | false => rfl
  | true =>
    have := congrArg List.length ((voSame_iff _ _).1 h)
    simp at this
theorem few_small {a : Vo} (h : ∀ e ∈ a, e.few) : List.all a Ev.small = true := by
  refine List.all_eq_true.2 fun e he => ?_
  have f := h e he
  exact Ev.small_of (by have := f.1; have := f.2.1; exact (by omega : e.pitches.length ≤ 1000)) (by have := f.2.1; exact (by omega : e.ties.length ≤ 1000)) (by have := f.2.2.1; exact (by omega : (Ev.mk e).length ≤ 1000))
theorem f9_run {R : Type} (kk : V → List Ob → Option R) (l m : List Int) (n : Int) (hl : bytesOk (l.take 400) = true) (hm : bytesOk (m.take 400) = true) (hn : (0 : Int) ≤ n ∧ n ≤ (255 : Int)) :
    vrun (E29 8) f9cuts 0 100000 (vend (E29 8) 0 (fb Tryd.f9).1.results.toList false kk) 1 [.code (fb Tryd.f9).2] (start [enc false (.cons (.sl rU8) .nil) l, enc false (.cons (.sl rU8) .nil) m, enc false (.cons (.int .u8) .nil) n] []) = kk (.bool true) [] := by
  have gl : madeG l 10 = true := by simp only [madeG, hl]; rfl
  have gm : madeG m 10 = true := by simp only [madeG, hm]; rfl
  have fa := madeV_few false hl (m := 10) (by omega)
  have fb' := madeV_few false hm (m := 10) (by omega)
  have la := (madeV_len false hl (m := 10) (by omega)).2
  have lb := (madeV_len false hm (m := 10) (by omega)).2
  rw [vrun_succ]
  refine (f9_go _ kk l m n).trans ?_
  rw [gl, gm]
  generalize madeV l 10 false = A at *
  generalize madeV m 10 false = B at *
  have la' : A.length ≤ 10 := la
  have lb' : B.length ≤ 10 := lb
  have c1 : decide (A.length * 128 ≤ bytesMost) = true := decide_eq_true (by simp only [bytesMost]; omega)
  have c2 : decide ((A.length + 1) * 128 ≤ bytesMost) = true := decide_eq_true (by simp only [bytesMost]; omega)
  have c3 : decide (A.length < 4611686018427387904) = true := decide_eq_true (by omega)
  have c4 : decide (B.length < 4611686018427387904) = true := decide_eq_true (by omega)
  rw [c1, c2, c3, c4, few_small fa, few_small fb', voSame_refl, voSame_comm, voSame_more]
  simp only [cond_true, cond_false, Bool.and_self, Bool.not_false]
  by_cases h0 : A.length = 0
  · rw [bif_neg (by exact decide_eq_false (by omega)), bif_pos (by exact decide_eq_true (by omega))]
  · have t1 := Int.tmod_nonneg (A.length : Int) hn.1
    have t2 := Int.tmod_lt_of_pos n (b := (A.length : Int)) (by omega)
    rw [w64 (n := n) (by omega) (by omega)]
    obtain ⟨i, hi⟩ : ∃ i : Nat, n.tmod (A.length : Int) = (i : Int) := ⟨(n.tmod (A.length : Int)).toNat, by omega⟩
    rw [hi]
    have hlt : i < A.length := by omega
    rw [bif_pos (by exact decide_eq_true (by omega)), bif_neg (by exact decide_eq_false (by omega)), idx_nat, Int.toNat_natCast, List.getElem?_eq_getElem hlt]
    dsimp only
    rw [bif_neg (by exact decide_eq_false (by omega))]
    have hd : voSame A (List.set A i (A[i].fst, A[i].snd.fst, A[i].snd.snd.fst, (6 : Int), A[i].snd.snd.snd.snd)) = false := by
      cases h : voSame A (List.set A i (A[i].fst, A[i].snd.fst, A[i].snd.snd.fst, (6 : Int), A[i].snd.snd.snd.snd)) with
      | false => rfl
      | true =>
        have e := (voSame_iff _ _).1 h
        have e2 : A[i]? = (List.set A i (A[i].fst, A[i].snd.fst, A[i].snd.snd.fst, (6 : Int), A[i].snd.snd.snd.snd))[i]? := congrArg (fun x : List Ev => x[i]?) e
        rw [List.getElem?_set_self hlt, List.getElem?_eq_getElem hlt] at e2
        have e3 := congrArg (fun x : Ev => x.val.1) (Option.some.inj e2)
        have f := (fa _ (List.getElem_mem hlt)).2.2.2
        have e4 : A[i].val.1 = 6 := e3
        omega
    rw [hd]
    rfl
end Vm.S07

namespace Go.Proofs.YtgkanaehhjkieaaDoor
open Go.ChangeShapes Go.WideShapes Go.ChangeAt Go.WideMaps Go.WideElems Go.RowKit Vm
theorem own : ownKnob Tryd.prog.godebug = none := by kernel_rfl
theorem laidOut : laidOutB Tryd.prog = true := by kernel_rfl
theorem g_accept : Tryd.prog.globalNamed "unicode/utf8.acceptRanges" = some 2 := by kernel_rfl
theorem t_accept : (Tryd.prog.globals[2]?).map (·.type) = some 134 := by kernel_rfl
theorem g_half : Tryd.prog.globalNamed "partita/pitch.halfTones" = some 3 := by kernel_rfl
theorem t_half : (Tryd.prog.globals[3]?).map (·.type) = some 137 := by kernel_rfl
theorem g_dotted : Tryd.prog.globalNamed "partita/value.dotted" = some 4 := by kernel_rfl
theorem t_dotted : (Tryd.prog.globals[4]?).map (·.type) = some 142 := by kernel_rfl
theorem g_kinds : Tryd.prog.globalNamed "partita/value.kinds" = some 0 := by kernel_rfl
theorem t_kinds : (Tryd.prog.globals[0]?).map (·.type) = some 114 := by kernel_rfl
theorem g_first : Tryd.prog.globalNamed "unicode/utf8.first" = some 1 := by kernel_rfl
theorem t_first : (Tryd.prog.globals[1]?).map (·.type) = some 131 := by kernel_rfl
abbrev theLaid : List (String × DataW Unit) := [("unicode/utf8.acceptRanges", Rows.laid_unicode_utf8_acceptRanges), ("partita/pitch.halfTones", Rows.laid_partita_pitch_halfTones), ("partita/value.dotted", Rows.laid_partita_value_dotted), ("partita/value.kinds", Rows.laid_partita_value_kinds), ("unicode/utf8.first", Rows.laid_unicode_utf8_first)]
theorem globs {W : World} (h : laidMetH Tryd.prog theLaid W) : ∀ g r xs, S07.gls.g g = some ⟨r, xs⟩ → allOld W g ∧ ∀ (i : Nat) x, xs[i]? = some x → Ks.Rep W (allOld W) r x g (i * r.len) := by
  rw [MakeChecks.laidMetH_plain _ _ _ (by kernel_rfl)] at h
  obtain ⟨ps, ⟨g0, t0, cs0, f0, p0, q0, hg0, ht0, hv0, hd0, ⟨g1, t1, cs1, f1, p1, q1, hg1, ht1, hv1, hd1, ⟨g2, t2, cs2, f2, p2, q2, hg2, ht2, hv2, hd2, ⟨g3, t3, cs3, f3, p3, q3, hg3, ht3, hv3, hd3, ⟨g4, t4, cs4, f4, p4, q4, hg4, ht4, hv4, hd4, _, _⟩, _⟩, _⟩, _⟩, _⟩, _, _⟩ := h
  intro g r xs hg
  have h2 := glob_of (name := "unicode/utf8.acceptRanges") g_accept t_accept (.cons (.int .u8) (.cons (.int .u8) .nil)) utf8Accept (by kernel_rfl) (by kernel_rfl) (by decide) (by rfl) hg0 ht0 hv0 hd0
  have h3 := glob_of (name := "partita/pitch.halfTones") g_half t_half (.cons (.int .i64) .nil) glHalf (by kernel_rfl) (by kernel_rfl) (by decide) (by rfl) hg1 ht1 hv1 hd1
  have h4 := glob_of (name := "partita/value.dotted") g_dotted t_dotted (.cons (.int .i64) (.cons (.int .i64) .nil)) glDotted (by kernel_rfl) (by kernel_rfl) (by decide) (by rfl) hg2 ht2 hv2 hd2
  have h0 := glob_of (name := "partita/value.kinds") g_kinds t_kinds (.cons (.int .i64) (.cons (.int .i64) (.cons (.int .i64) (.cons (.int .i64) .nil)))) glKinds (by kernel_rfl) (by kernel_rfl) (by decide) (by rfl) hg3 ht3 hv3 hd3
  have h1 := glob_of (name := "unicode/utf8.first") g_first t_first (.cons (.int .u8) .nil) utf8First (by kernel_rfl) (by kernel_rfl) (by decide) (by rfl) hg4 ht4 hv4 hd4
  simp only [S07.gls, Vm.look] at hg
  split at hg
  · rename_i e; subst e; cases hg; exact h0
  · skip
    split at hg
    · rename_i e; subst e; cases hg; exact h1
    · skip
      split at hg
      · rename_i e; subst e; cases hg; exact h2
      · skip
        split at hg
        · rename_i e; subst e; cases hg; exact h3
        · skip
          split at hg
          · rename_i e; subst e; cases hg; exact h4
          · cases hg

noncomputable abbrev W0 (os : Os) : World := World.laidAll Tryd.prog os theLaid
theorem laid_met (os : Os) (args : Array Value) : laidMetH Tryd.prog theLaid ((W0 os).forCall (fun _ _ => 0) ⟨#[], args, []⟩).memory := by
  rw [MakeChecks.laidMetH_plain _ _ _ (by kernel_rfl)]
  exact laidMet_laidAll _ (by kernel_rfl) (by kernel_rfl)
theorem shaped (os : Os) : (W0 os).Shaped Tryd.prog := World.shaped_of_ZipB (by kernel_rfl) (by kernel_rfl)
def wEv : Value := .agg #[.int .i64 0, .slice none 0 0, .slice none 0 0, .int .i64 0, .int .i64 0, .int .i64 0, .int .i64 0, .slice none 0 0, .string ⟨#[]⟩]

abbrev wVal : Value := .agg #[.int .i64 0, .int .i64 0, .int .i64 0, .int .i64 0]
abbrev wIv : Value := .agg #[.int .i64 0, .int .i64 0]
abbrev rU8 : Ks := .cons (.int .u8) .nil
theorem wf_u8 {n : Int} (h : (Lit.int .u8 n).wf = true) : (0 : Int) ≤ n ∧ n ≤ (255 : Int) := by
  simp [Lit.wf, IntKind.min, IntKind.max, IntKind.signed, IntKind.bits] at h; omega
theorem wf_i64 {n : Int} (h : (Lit.int .i64 n).wf = true) : (-9223372036854775808 : Int) ≤ n ∧ n ≤ (9223372036854775807 : Int) := by
  simp [Lit.wf, IntKind.min, IntKind.max, IntKind.signed, IntKind.bits] at h; omega
end Go.Proofs.YtgkanaehhjkieaaDoor

open Go
namespace Vm
theorem bytes_ok {x : List Int} (h : Ks.okD (.cons (.sl (.cons (.int .u8) .nil)) .nil) x) : bytesOk (x.take 400) = true := by
  simp only [Ks.okD, K.okD] at h
  simp only [bytesOk, Bool.and_eq_true, decide_eq_true_eq]
  refine ⟨by rw [List.length_take]; omega, List.all_eq_true.2 fun b hb => ?_⟩
  obtain ⟨i, hi, he⟩ := List.mem_iff_getElem.1 (List.mem_of_mem_take hb)
  have hg : (x : List Int)[i]? = some b := by rw [List.getElem?_eq_getElem hi, he]
  have := h.2 i b hg
  exact decide_eq_true (Go.Proofs.YtgkanaehhjkieaaDoor.wf_u8 this)
end Vm

