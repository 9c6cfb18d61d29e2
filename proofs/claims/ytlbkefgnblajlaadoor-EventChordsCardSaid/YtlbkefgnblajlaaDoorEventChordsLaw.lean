/- The statement answers true for every argument: the row and its tied card; no condition. -/
import Derived.Test.YtlbkefgnblajlaaDoorEventChordsRun
import Derived.Test.YtlbkefgnblajlaaDoorTie
import Derived.Test.YtlbkefgnblajlaaDoorCards
import Derived.SevenTiedAt
set_option maxRecDepth 100000
namespace Vm.S6b
open Go Go.Proofs
theorem f3_c (x0 : (Ks.cons (K.sl rEvent) .nil).Ty) : Contract Tryd.prog gls 3 [enc false (Ks.cons (K.sl rEvent) .nil) x0] [] (.bool true) [] := by
 have hn := f3_run (fun v os => some (v, os)) x0
 exact contract_run (fn := (fb Tryd.f3).1) (c := (fb Tryd.f3).2) mixed (ready22 8) (glE22 8) Tryd.func3 (by kernel_rfl) rfl rfl (by kernel_rfl) hn
end Vm.S6b
namespace Go.Proofs.YtlbkefgnblajlaaDoor
open Go.ChangeShapes Go.WideShapes Go.ChangeAt Go.WideMaps Go.WideElems Go.RowKit Vm
theorem eventChords_lifted (os : Os) (started : os.Started) (H : Type) (enc : TypeId × Value → H) :
  ReturnsInHanded {} Tryd.checked os 3 .any (fun w args => (Rows.eventChordsSpec.pre enc Tryd.prog Tryd.f3 [] false w args ∧ laidMetH Tryd.prog theLaid w) ∧ sizedMet enc Tryd.prog Tryd.f3 (OpenSpec.ofChange Rows.eventChordsSpec) false w args)
   (Rows.eventChordsSpec.post enc Tryd.prog Tryd.f3 false true false false) := by
 refine returnsInHanded_of_change_and (C := Tryd.checked) (X := fun w _ => laidMetH Tryd.prog theLaid w) (fun _ _ _ hh h => h.of_heap hh) own started (by kernel_rfl) Tryd.func3
  (ChangeSpec.witness_shaped (enc := enc) (C := Tryd.checked) (os := os) (X := fun w _ => laidMetH Tryd.prog theLaid w) false (W0 os) #[(.slice none 0 0)] 8 (World.laidAll_os _ _ _) (shaped os) (by kernel_rfl) (by kernel_rfl) (by kernel_rfl) (laid_met os _)) ?_
 intro W base args ds gs before hval0 hW _ _ hL _
 have hval : ∀ (j : Nat) t v, Tryd.f3.params[j]? = some t → args[j]? = some v → Value.okWide Tryd.prog W .any base t v := hval0
 have hW' := hW
 obtain ⟨p, q, hA0, hV, rfl, hfz, hnd⟩ := hW
 have hA : DataW.TrodAll enc Tryd.prog W 0 (fun _ => true) true Tryd.f3.params.toList args.toList ds p := hA0
 rw [Tryd.params3] at hA hval
 obtain ⟨v0, d0, rfl, rfl, h0⟩ := trodAll_one hA
 obtain ⟨rfl, rfl⟩ := trodVars_none hV
 obtain ⟨x0, o0, hx0⟩ := arg_rep (r := (Ks.cons (K.sl rEvent) .nil)) false (by kernel_rfl) rfl (by kernel_rfl) (hval 0 22 v0 rfl rfl) h0
 have hlt0 : ∀ z ∈ p, z.block < W.heap.size := fun z hz => hW'.lt z (by simp [hz])
 clear hA0 hval0
 refine (law_calls (P := Tryd.prog) (gl := S6b.gls) (fn := Tryd.f3) (c := (S6b.fb Tryd.f3).2) Tryd.func3 (by kernel_rfl) (by kernel_rfl) (S6b.f3_c x0) (globs hL) (cs := #[v0]) (fun η h => by
  simp only [V.RepL]; exact ⟨v0, [], rfl, hx0 η h, rfl⟩) rfl).mono fun e W' ⟨he, hb, hz⟩ => ?_
 subst he
 have keep : ∀ sp : Nat → Bool, (∀ z ∈ p ++ [], sp z.block = true) → DataW.TrodAll enc Tryd.prog W' 0 sp true Tryd.f3.params.toList #[v0].toList [d0] (p) := fun sp hsp =>
  trodAll_mk1 (stays laidOut (by kernel_rfl) (of_decide_eq_true (by kernel_rfl)) h0 hb hlt0 fun z hz => hsp z (by simp [hz]))
 exact ⟨_, rfl, post_of_same (pa := p) (pv := []) hW' (fun _ _ _ => trodAll_mk1 (shut_bool Tryd.underlying4 _)) keep (fun _ _ => rfl) (by simp) (hb.frame _) hz (ok_one (by kernel_rfl) rfl (okWide_bool_mk Tryd.underlying4 _))⟩
theorem eventChords_holds : Rows.EventChordsSaid :=
 OpenClaim.holds_of_wide 3 Tryd.f3 rfl rfl rfl rfl rfl rfl rfl ⟨rfl, rfl, rfl, rfl, rfl⟩ rfl rfl rfl rfl rfl (by kernel_rfl) Tryd.func3 (by kernel_rfl)
  (of_decide_eq_true (by kernel_rfl)) (by unfold Func.isWrapper; first | (rw [if_pos (by decide +kernel)]; kernel_rfl) | (rw [if_neg (by decide +kernel)]; exact ⟨rfl, rfl⟩))
  (fun os started H enc _ => eventChords_lifted os started H enc)
theorem eventChordsCard_holds : Rows.EventChordsCardSaid :=
 Claim7.holds_tied_plain_at .later [] [.data, .data, .data, .pinned] true (true, "05f8080cd508d960eaa8421e0ebe10b4d265c2927e885090ab97dfbb070ae6f8") false
  eventChords_holds (fun _ h => by cases h) (by kernel_rfl) (fun _ h => by cases h) eventChords_row_tie rfl ⟨rfl, rfl⟩ (by kernel_rfl) rfl
  (fun f fn hf hfn => by
    obtain rfl : f = 3 := Option.some.inj ((show Tryd.prog.funcNamed "partita/partitalaw06.EventChords" = some 3 by kernel_rfl).symm.trans hf) |>.symm
    obtain rfl : fn = Tryd.f3 := (Option.some.inj (Tryd.func3.symm.trans hfn)).symm
    exact ⟨by kernel_rfl, fun j t ht => by
     rw [Tryd.params3] at ht
     rcases j with _ | j
     ·have h3 : t = 22 := by simpa using ht.symm
      subst h3
      exact (show Tryd.prog.wantsStandIn 22 = false by kernel_rfl)
     ·simp at ht⟩)
  (by kernel_rfl)
end Go.Proofs.YtlbkefgnblajlaaDoor
