/- EventWords answers true for every argument: the row and its tied card; no condition. -/
import Derived.Test.YtmfbipnhhfpajaaDoorLawE
import Derived.Test.YtmfbipnhhfpajaaDoorTie
import Derived.Test.YtmfbipnhhfpajaaDoorCards
import Derived.SevenTiedAt
set_option maxRecDepth 100000
namespace Vm.S06
open Go Go.Proofs
theorem f13_c (x0 : rS.Ty) : Contract Tryd.prog gls 13 [enc false rS x0] [] (.bool true) [] := by
  have hn := f13_run (fun v os => some (v, os)) x0
  exact contract_run (fn := (fb Tryd.f13).1) (c := (fb Tryd.f13).2) mixed (ready11 8) (glE11 8) Tryd.func13 (by kernel_rfl) rfl rfl (by kernel_rfl) hn
end Vm.S06
namespace Go.Proofs.YtmfbipnhhfpajaaDoor
open Go.ChangeShapes Go.WideShapes Go.ChangeAt Go.WideMaps Go.WideElems Go.RowKit Vm
theorem eventWords_lifted (os : Os) (started : os.Started) (H : Type) (enc : TypeId × Value → H) :
    ReturnsInHanded {} Tryd.checked os 13 .any (fun w args => (Rows.eventWordsSpec.pre enc Tryd.prog Tryd.f13 [] false w args ∧ laidMetH Tryd.prog theLaid w) ∧ sizedMet enc Tryd.prog Tryd.f13 (OpenSpec.ofChange Rows.eventWordsSpec) false w args)
      (Rows.eventWordsSpec.post enc Tryd.prog Tryd.f13 false true false false) := by
  refine returnsInHanded_of_change_and (C := Tryd.checked) (X := fun w _ => laidMetH Tryd.prog theLaid w) (fun _ _ _ hh h => h.of_heap hh) own started (by kernel_rfl) Tryd.func13
    (ChangeSpec.witness_shaped (enc := enc) (C := Tryd.checked) (os := os) (X := fun w _ => laidMetH Tryd.prog theLaid w) false (W0 os) #[(.string ⟨#[]⟩)] 8 (World.laidAll_os _ _ _) (shaped os) (by kernel_rfl) (by kernel_rfl) (by kernel_rfl) (laid_met os _)) ?_
  intro W base args ds gs before hval0 hW _ _ hL _
  have hval : ∀ (j : Nat) t v, Tryd.f13.params[j]? = some t → args[j]? = some v → Value.okWide Tryd.prog W .any base t v := hval0
  have hW' := hW
  obtain ⟨p, q, hA0, hV, rfl, hfz, hnd⟩ := hW
  have hA : DataW.TrodAll enc Tryd.prog W 0 (fun _ => true) true Tryd.f13.params.toList args.toList ds p := hA0
  rw [Tryd.params13] at hA hval
  obtain ⟨v0, d0, rfl, rfl, h0⟩ := trodAll_one hA
  obtain ⟨rfl, rfl⟩ := trodVars_none hV
  obtain ⟨x0, o0, hx0⟩ := arg_rep (r := rS) false (by kernel_rfl) rfl (by kernel_rfl) (hval 0 9 v0 rfl rfl) h0
  have hlt0 : ∀ z ∈ p, z.block < W.heap.size := fun z hz => hW'.lt z (by simp [hz])
  clear hA0 hval0
  refine (law_calls (P := Tryd.prog) (gl := S06.gls) (fn := Tryd.f13) (c := (S06.fb Tryd.f13).2) Tryd.func13 (by kernel_rfl) (by kernel_rfl) (S06.f13_c x0) (globs hL) (cs := #[v0]) (fun η h => by
    simp only [V.RepL]; exact ⟨v0, [], rfl, hx0 η h, rfl⟩) rfl).mono fun e W' ⟨he, hb, hz⟩ => ?_
  subst he
  have keep : ∀ sp : Nat → Bool, (∀ z ∈ p ++ [], sp z.block = true) → DataW.TrodAll enc Tryd.prog W' 0 sp true Tryd.f13.params.toList #[v0].toList [d0] (p) := fun sp hsp =>
    trodAll_mk1 (stays laidOut (by kernel_rfl) (of_decide_eq_true (by kernel_rfl)) h0 hb hlt0 fun z hz => hsp z (by simp [hz]))
  exact ⟨_, rfl, post_of_same (pa := p) (pv := []) hW' (fun _ _ _ => trodAll_mk1 (shut_bool Tryd.underlying4 _)) keep (fun _ _ => rfl) (by simp) (hb.frame _) hz (ok_one (by kernel_rfl) rfl (okWide_bool_mk Tryd.underlying4 _))⟩

theorem eventWords_holds : Rows.EventWordsSaid :=
  OpenClaim.holds_of_wide 13 Tryd.f13 rfl rfl rfl rfl rfl rfl rfl ⟨rfl, rfl, rfl, rfl, rfl⟩ rfl rfl rfl rfl rfl (by kernel_rfl) Tryd.func13 (by kernel_rfl)
    (of_decide_eq_true (by kernel_rfl)) (by unfold Func.isWrapper; first | (rw [if_pos (by decide +kernel)]; kernel_rfl) | (rw [if_neg (by decide +kernel)]; exact ⟨rfl, rfl⟩))
    (fun os started H enc _ => eventWords_lifted os started H enc)

theorem eventWordsCard_holds : Rows.EventWordsCardSaid :=
  Claim7.holds_tied_plain_at .later [] [.data, .data, .data, .pinned] true (true, "75a2f465e2f444f65b61728636622f9b371610ee700bbb0590ef2c3b146e9273") false
    eventWords_holds (fun _ h => by cases h) (by kernel_rfl) (fun _ h => by cases h) eventWords_row_tie rfl ⟨rfl, rfl⟩ (by kernel_rfl) rfl
    (fun f fn hf hfn => by
      obtain rfl : f = 13 := Option.some.inj ((show Tryd.prog.funcNamed "partita/partitalaw06.EventWords" = some 13 by kernel_rfl).symm.trans hf) |>.symm
      obtain rfl : fn = Tryd.f13 := (Option.some.inj (Tryd.func13.symm.trans hfn)).symm
      exact ⟨by kernel_rfl, fun j t ht => by
        rw [Tryd.params13] at ht
        rcases j with _ | j
        · have h3 : t = 9 := by simpa using ht.symm
          subst h3
          exact (show Tryd.prog.wantsStandIn 9 = false by kernel_rfl)
        · simp at ht⟩)
    (by kernel_rfl)
end Go.Proofs.YtmfbipnhhfpajaaDoor

