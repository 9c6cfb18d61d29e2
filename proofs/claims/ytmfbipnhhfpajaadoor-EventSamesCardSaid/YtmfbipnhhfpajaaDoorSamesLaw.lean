/- EventSames answers true for every two events: the row and its tied card; no condition. -/
import Derived.Test.YtmfbipnhhfpajaaDoorLawA
import Derived.Test.YtmfbipnhhfpajaaDoorVmE
import Derived.KernelRfl
import Derived.Lay
import Derived.Test.YtmfbipnhhfpajaaDoorRows
import Derived.Test.YtmfbipnhhfpajaaDoorTie
import Derived.Test.YtmfbipnhhfpajaaDoorCards
import Derived.SevenTiedAt
set_option maxRecDepth 100000
open Go Go.Proofs
namespace Vm.S06
noncomputable abbrev f3cuts : Cuts := fun _ => none
theorem f3_go {R : Type} (J : List Item → St → Option R) (kk : V → List Ob → Option R) (x : Int × List (Int × Int × Int) × List Bool × Int × Int × Int × Int × List Int × List UInt8) (y : Int × List (Int × Int × Int) × List Bool × Int × Int × Int × Int × List Int × List UInt8) :
  vseg (E3 8) f3cuts 0 J (vend (E3 8) 0 (fb Tryd.f3).1.results.toList false kk) 100000 true [.code (fb Tryd.f3).2] (start ([enc true rEvent x, enc true rEvent y]) ([])) =
  (bif decide ((↑(List.length x.snd.fst) : Int) ≤ 20) then
    (bif decide ((↑(List.length x.snd.snd.fst) : Int) ≤ 20) then
      (bif decide ((↑(List.length x.snd.snd.snd.snd.snd.snd.snd.fst) : Int) ≤ 20) then
        (bif !decide ((↑(List.length x.snd.snd.snd.snd.snd.snd.snd.snd) : Int) ≤ 100) then
          kk (V.bool true) ([])
        else (bif decide ((↑(List.length y.snd.fst) : Int) ≤ 20) then
            (bif decide ((↑(List.length y.snd.snd.fst) : Int) ≤ 20) then
              (bif decide ((↑(List.length y.snd.snd.snd.snd.snd.snd.snd.fst) : Int) ≤ 20) then
                (bif !decide ((↑(List.length y.snd.snd.snd.snd.snd.snd.snd.snd) : Int) ≤ 100) then
                  kk (V.bool true) ([])
                else (bif Ev.small x then
                    (bif Ev.small x then
                      (bif Ev.same x y == Ev.same x y then
                        (bif Ev.small x then
                          (bif Ev.same x x then
                            (bif Ev.small y then
                              (bif Ev.small x then
                                kk (V.bool (Ev.same y x == Ev.same x y)) ([])
                              else none)
                            else none)
                          else kk (V.bool false) ([]))
                        else none)
                      else kk (V.bool false) ([]))
                    else none)
                  else none))
              else kk (V.bool true) ([]))
            else kk (V.bool true) ([]))
          else kk (V.bool true) ([])))
      else kk (V.bool true) ([]))
    else kk (V.bool true) ([]))
  else kk (V.bool true) ([])) := by kernel_rfl

end Vm.S06

open Go Go.Proofs
namespace Vm.S06
theorem Ev.same_self (x : Ev) : Ev.same x x = true := (Ev.same_iff x x).2 rfl
theorem Ev.same_comm (x y : Ev) : Ev.same y x = Ev.same x y := by
  rw [Bool.eq_iff_iff, Ev.same_iff, Ev.same_iff]; exact eq_comm
theorem Ev.small_of {x : Ev} (h1 : ((x.2.1.length : Nat) : Int) ≤ 20) (h2 : ((x.2.2.1.length : Nat) : Int) ≤ 20) (h3 : ((x.2.2.2.2.2.2.2.1.length : Nat) : Int) ≤ 20) : Ev.small x = true := by
  simp only [Ev.small, Bool.and_eq_true, decide_eq_true_eq]; omega

theorem f3_run {R : Type} (kk : V → List Ob → Option R) (x y : Ev) :
    vrun (E3 8) f3cuts 0 100000 (vend (E3 8) 0 (fb Tryd.f3).1.results.toList false kk) 1 [.code (fb Tryd.f3).2] (start [enc true rEvent x, enc true rEvent y] []) = kk (.bool true) [] := by
  rw [vrun_succ, f3_go]
  simp only [Ev.same_self, Ev.same_comm x y, beq_self_eq_true, cond_true]
  by_cases h1 : ((x.2.1.length : Nat) : Int) ≤ 20
  · by_cases h2 : ((x.2.2.1.length : Nat) : Int) ≤ 20
    · by_cases h3 : ((x.2.2.2.2.2.2.2.1.length : Nat) : Int) ≤ 20
      · have hx := Ev.small_of h1 h2 h3
        simp only [h1, h2, h3, hx, decide_true, cond_true]
        by_cases k1 : ((y.2.1.length : Nat) : Int) ≤ 20
        · by_cases k2 : ((y.2.2.1.length : Nat) : Int) ≤ 20
          · by_cases k3 : ((y.2.2.2.2.2.2.2.1.length : Nat) : Int) ≤ 20
            · have hy := Ev.small_of k1 k2 k3
              simp only [k1, k2, k3, hy, decide_true, cond_true, Bool.cond_self]
            · simp only [k1, k2, k3, decide_true, decide_false, cond_true, cond_false, Bool.cond_self]
          · simp only [k1, k2, decide_true, decide_false, cond_true, cond_false, Bool.cond_self]
        · simp only [k1, decide_false, cond_false, Bool.cond_self]
      · simp only [h1, h2, h3, decide_true, decide_false, cond_true, cond_false]
    · simp only [h1, h2, decide_true, decide_false, cond_true, cond_false]
  · simp only [h1, decide_false, cond_false]
theorem f3_c (x y : Ev) : Contract Tryd.prog gls 3 [enc true rEvent x, enc true rEvent y] [] (.bool true) [] :=
  contract_run (fn := (fb Tryd.f3).1) (c := (fb Tryd.f3).2) mixed (ready3 8) (glE3 8) Tryd.func3 (by kernel_rfl) rfl rfl (by kernel_rfl) (f3_run (fun v os => some (v, os)) x y)
end Vm.S06

namespace Go.Proofs.YtmfbipnhhfpajaaDoor
open Go.ChangeShapes Go.WideShapes Go.ChangeAt Go.WideMaps Go.WideElems Go.RowKit Vm
theorem own : ownKnob Tryd.prog.godebug = none := by kernel_rfl
theorem laidOut : laidOutB Tryd.prog = true := by kernel_rfl
theorem g_dotted : Tryd.prog.globalNamed "partita/value.dotted" = some 0 := by kernel_rfl
theorem g_half : Tryd.prog.globalNamed "partita/pitch.halfTones" = some 1 := by kernel_rfl
theorem t_dotted : (Tryd.prog.globals[0]?).map (·.type) = some 78 := by kernel_rfl
theorem t_half : (Tryd.prog.globals[1]?).map (·.type) = some 92 := by kernel_rfl
abbrev theLaid : List (String × DataW Unit) := [("unicode/utf8.acceptRanges", Rows.laid_unicode_utf8_acceptRanges), ("partita/pitch.halfTones", Rows.laid_partita_pitch_halfTones), ("partita/value.dotted", Rows.laid_partita_value_dotted), ("unicode/utf8.first", Rows.laid_unicode_utf8_first)]

theorem globs {W : World} (h : laidMetH Tryd.prog theLaid W) : ∀ g r xs, S06.gls g = some ⟨r, xs⟩ → allOld W g ∧ ∀ (i : Nat) x, xs[i]? = some x → Ks.Rep W (allOld W) r x g (i * r.len) := by
  rw [MakeChecks.laidMetH_plain _ _ _ (by kernel_rfl)] at h
  obtain ⟨ps, ⟨g0, t0, cs0, f0, p0, q0, hg0, ht0, hv0, hd0, ⟨g1, t1, cs1, f1, p1, q1, hg1, ht1, hv1, hd1, ⟨g2, t2, cs2, f2, p2, q2, hg2, ht2, hv2, hd2, _, _⟩, _⟩, _⟩, _, _⟩ := h
  intro g r xs hg
  have h0 := glob_of (name := "partita/value.dotted") g_dotted t_dotted (.cons (.int .i64) (.cons (.int .i64) .nil)) (show List (Int × Int) from [(1, 1), (3, 2), (7, 4)]) (by kernel_rfl) (by kernel_rfl) (by decide) (by rfl) hg2 ht2 hv2 hd2
  have h1 := glob_of (name := "partita/pitch.halfTones") g_half t_half (.cons (.int .i64) .nil) (show List Int from [0, 2, 4, 5, 7, 9, 11]) (by kernel_rfl) (by kernel_rfl) (by decide) (by rfl) hg1 ht1 hv1 hd1
  simp only [S06.gls, Vm.look] at hg
  split at hg
  · rename_i e; subst e; cases hg; exact h0
  · split at hg
    · rename_i e; subst e; cases hg; exact h1
    · cases hg

noncomputable abbrev W0 (os : Os) : World := World.laidAll Tryd.prog os theLaid
theorem laid_met (os : Os) (args : Array Value) : laidMetH Tryd.prog theLaid ((W0 os).forCall (fun _ _ => 0) ⟨#[], args, []⟩).memory := by
  rw [MakeChecks.laidMetH_plain _ _ _ (by kernel_rfl)]
  exact laidMet_laidAll _ (by kernel_rfl) (by kernel_rfl)
theorem shaped (os : Os) : (W0 os).Shaped Tryd.prog := World.shaped_of_ZipB (by kernel_rfl) (by kernel_rfl)
def wEv : Value := .agg #[.int .i64 0, .slice none 0 0, .slice none 0 0, .int .i64 0, .int .i64 0, .int .i64 0, .int .i64 0, .slice none 0 0, .string ⟨#[]⟩]

theorem eventSames_lifted (os : Os) (started : os.Started) (H : Type) (enc : TypeId × Value → H) :
    ReturnsInHanded {} Tryd.checked os 3 .any (fun w args => (Rows.eventSamesSpec.pre enc Tryd.prog Tryd.f3 [] false w args ∧ laidMetH Tryd.prog theLaid w) ∧ sizedMet enc Tryd.prog Tryd.f3 (OpenSpec.ofChange Rows.eventSamesSpec) false w args)
      (Rows.eventSamesSpec.post enc Tryd.prog Tryd.f3 false true false false) := by
  refine returnsInHanded_of_change_and (C := Tryd.checked) (X := fun w _ => laidMetH Tryd.prog theLaid w) (fun _ _ _ hh h => h.of_heap hh) own started (by kernel_rfl) Tryd.func3
    (ChangeSpec.witness_shaped (enc := enc) (C := Tryd.checked) (os := os) (X := fun w _ => laidMetH Tryd.prog theLaid w) false (W0 os) #[wEv, wEv] 8 (World.laidAll_os _ _ _) (shaped os) (by kernel_rfl) (by kernel_rfl) (by kernel_rfl) (laid_met os _)) ?_
  intro W base args ds gs before hval0 hW _ _ hL _
  have hval : ∀ (j : Nat) t v, Tryd.f3.params[j]? = some t → args[j]? = some v → Value.okWide Tryd.prog W .any base t v := hval0
  have hW' := hW
  obtain ⟨p, q, hA0, hV, rfl, hfz, hnd⟩ := hW
  have hA : DataW.TrodAll enc Tryd.prog W 0 (fun _ => true) true Tryd.f3.params.toList args.toList ds p := hA0
  rw [Tryd.params3] at hA hval
  obtain ⟨v0, v1, d0, d1, p0, p1, rfl, rfl, rfl, h0, h1⟩ := trodAll_two hA
  obtain ⟨rfl, rfl⟩ := trodVars_none hV
  obtain ⟨x, _, hx⟩ := arg_rep (r := rEvent) true (by kernel_rfl) rfl (by kernel_rfl) (hval 0 28 v0 rfl rfl) h0
  obtain ⟨y, _, hy⟩ := arg_rep (r := rEvent) true (by kernel_rfl) rfl (by kernel_rfl) (hval 1 28 v1 rfl rfl) h1
  have hlt0 : ∀ z ∈ p0, z.block < W.heap.size := fun z hz => hW'.lt z (by simp [hz])
  have hlt1 : ∀ z ∈ p1, z.block < W.heap.size := fun z hz => hW'.lt z (by simp [hz])
  clear hA0 hval0
  refine (law_calls (P := Tryd.prog) (gl := S06.gls) (fn := Tryd.f3) (c := (S06.fb Tryd.f3).2) Tryd.func3 (by kernel_rfl) (by kernel_rfl) (S06.f3_c x y) (globs hL) (cs := #[v0, v1]) (fun η h => by
    simp only [V.RepL]; exact ⟨v0, [v1], rfl, hx η h, v1, [], rfl, hy η h, rfl⟩) rfl).mono fun e W' ⟨he, hb, hz⟩ => ?_
  subst he
  have keep : ∀ sp : Nat → Bool, (∀ z ∈ (p0 ++ p1) ++ [], sp z.block = true) → DataW.TrodAll enc Tryd.prog W' 0 sp true Tryd.f3.params.toList #[v0, v1].toList [d0, d1] (p0 ++ p1) := fun sp hsp =>
    trodAll_mk2 (stays laidOut (by kernel_rfl) (of_decide_eq_true (by kernel_rfl)) h0 hb hlt0 fun z hz => hsp z (by simp [hz])) (stays laidOut (by kernel_rfl) (of_decide_eq_true (by kernel_rfl)) h1 hb hlt1 fun z hz => hsp z (by simp [hz]))
  exact ⟨_, rfl, post_of_same (pa := p0 ++ p1) (pv := []) hW' (fun _ _ _ => trodAll_mk1 (shut_bool Tryd.underlying4 _)) keep (fun _ _ => rfl) rfl (hb.frame _) hz (ok_one (by kernel_rfl) rfl (okWide_bool_mk Tryd.underlying4 _))⟩

theorem eventSames_holds : Rows.EventSamesSaid :=
  OpenClaim.holds_of_wide 3 Tryd.f3 rfl rfl rfl rfl rfl rfl rfl ⟨rfl, rfl, rfl, rfl, rfl⟩ rfl rfl rfl rfl rfl (by kernel_rfl) Tryd.func3 (by kernel_rfl)
    (of_decide_eq_true (by kernel_rfl)) (by unfold Func.isWrapper; first | (rw [if_pos (by decide +kernel)]; kernel_rfl) | (rw [if_neg (by decide +kernel)]; exact ⟨rfl, rfl⟩))
    (fun os started H enc _ => eventSames_lifted os started H enc)
end Go.Proofs.YtmfbipnhhfpajaaDoor

namespace Go.Proofs.YtmfbipnhhfpajaaDoor
theorem eventSamesCard_holds : Rows.EventSamesCardSaid :=
  Claim7.holds_tied_plain_at .later [] [.data, .data, .data, .pinned] true (true, "75a2f465e2f444f65b61728636622f9b371610ee700bbb0590ef2c3b146e9273") false
    eventSames_holds (fun _ h => by cases h) (by kernel_rfl) (fun _ h => by cases h) eventSames_row_tie rfl ⟨rfl, rfl⟩ (by kernel_rfl) rfl
    (fun f fn hf hfn => by
      obtain rfl : f = 3 := Option.some.inj ((show Tryd.prog.funcNamed "partita/partitalaw06.EventSames" = some 3 by kernel_rfl).symm.trans hf) |>.symm
      obtain rfl : fn = Tryd.f3 := (Option.some.inj (Tryd.func3.symm.trans hfn)).symm
      exact ⟨by kernel_rfl, fun j t ht => by
        rw [Tryd.params3] at ht
        have h3 : t = 28 := by
          rcases j with _ | _ | j
          · simpa using ht.symm
          · simpa using ht.symm
          · simp at ht
        subst h3
        exact (show Tryd.prog.wantsStandIn 28 = false by kernel_rfl)⟩)
    (by kernel_rfl)
end Go.Proofs.YtmfbipnhhfpajaaDoor

