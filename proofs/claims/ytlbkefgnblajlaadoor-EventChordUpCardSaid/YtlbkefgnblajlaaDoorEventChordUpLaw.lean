/- The statement answers true for every argument: the row and its tied card; no condition. -/
import Derived.Test.YtlbkefgnblajlaaDoorEventChordUpRun
import Derived.Test.YtlbkefgnblajlaaDoorTie
import Derived.Test.YtlbkefgnblajlaaDoorCards
import Derived.SevenTiedAt
set_option maxRecDepth 100000
namespace Vm.S6b
open Go Go.Proofs
theorem f7_c (x0 : (Ks.cons (K.sl rEvent) .nil).Ty) (x1 : rIv.Ty) : Contract Tryd.prog gls 7 [enc false (Ks.cons (K.sl rEvent) .nil) x0, enc true rIv x1] [] (.bool true) [] := by
 obtain ⟨n, hn⟩ := f7_run (fun v os => some (v, os)) x0 x1
 exact contract_run (fn := (fb Tryd.f7).1) (c := (fb Tryd.f7).2) mixed (ready22 8) (glE22 8) Tryd.func7 (by kernel_rfl) rfl rfl (by kernel_rfl) hn
end Vm.S6b
namespace Go.Proofs.YtlbkefgnblajlaaDoor
open Go.ChangeShapes Go.WideShapes Go.ChangeAt Go.WideMaps Go.WideElems Go.RowKit Vm
theorem eventChordUp_lifted (os : Os) (started : os.Started) (H : Type) (enc : TypeId × Value → H) :
  ReturnsInHanded {} Tryd.checked os 7 .any (fun w args => (Rows.eventChordUpSpec.pre enc Tryd.prog Tryd.f7 [] false w args ∧ laidMetH Tryd.prog theLaid w) ∧ sizedMet enc Tryd.prog Tryd.f7 (OpenSpec.ofChange Rows.eventChordUpSpec) false w args)
   (Rows.eventChordUpSpec.post enc Tryd.prog Tryd.f7 false true false false) := by
 refine returnsInHanded_of_change_and (C := Tryd.checked) (X := fun w _ => laidMetH Tryd.prog theLaid w) (fun _ _ _ hh h => h.of_heap hh) own started (by kernel_rfl) Tryd.func7
  (ChangeSpec.witness_shaped (enc := enc) (C := Tryd.checked) (os := os) (X := fun w _ => laidMetH Tryd.prog theLaid w) false (W0 os) #[(.slice none 0 0), wIv] 8 (World.laidAll_os _ _ _) (shaped os) (by kernel_rfl) (by kernel_rfl) (by kernel_rfl) (laid_met os _)) ?_
 intro W base args ds gs before hval0 hW _ _ hL _
 have hval : ∀ (j : Nat) t v, Tryd.f7.params[j]? = some t → args[j]? = some v → Value.okWide Tryd.prog W .any base t v := hval0
 have hW' := hW
 obtain ⟨p, q, hA0, hV, rfl, hfz, hnd⟩ := hW
 have hA : DataW.TrodAll enc Tryd.prog W 0 (fun _ => true) true Tryd.f7.params.toList args.toList ds p := hA0
 rw [Tryd.params7] at hA hval
 obtain ⟨v0, v1, d0, d1, p0, p1, rfl, rfl, rfl, h0, h1⟩ := trodAll_two hA
 obtain ⟨rfl, rfl⟩ := trodVars_none hV
 obtain ⟨x0, o0, hx0⟩ := arg_rep (r := (Ks.cons (K.sl rEvent) .nil)) false (by kernel_rfl) rfl (by kernel_rfl) (hval 0 22 v0 rfl rfl) h0
 obtain ⟨x1, o1, hx1⟩ := arg_rep (r := rIv) true (by kernel_rfl) rfl (by kernel_rfl) (hval 1 41 v1 rfl rfl) h1
 have hlt0 : ∀ z ∈ p0, z.block < W.heap.size := fun z hz => hW'.lt z (by simp [hz])
 have hlt1 : ∀ z ∈ p1, z.block < W.heap.size := fun z hz => hW'.lt z (by simp [hz])
 clear hA0 hval0
 refine (law_calls (P := Tryd.prog) (gl := S6b.gls) (fn := Tryd.f7) (c := (S6b.fb Tryd.f7).2) Tryd.func7 (by kernel_rfl) (by kernel_rfl) (S6b.f7_c x0 x1) (globs hL) (cs := #[v0, v1]) (fun η h => by
  simp only [V.RepL]; exact ⟨v0, [v1], rfl, hx0 η h, v1, [], rfl, hx1 η h, rfl⟩) rfl).mono fun e W' ⟨he, hb, hz⟩ => ?_
 subst he
 have keep : ∀ sp : Nat → Bool, (∀ z ∈ (p0 ++ p1) ++ [], sp z.block = true) → DataW.TrodAll enc Tryd.prog W' 0 sp true Tryd.f7.params.toList #[v0, v1].toList [d0, d1] (p0 ++ p1) := fun sp hsp =>
  trodAll_mk2 (stays laidOut (by kernel_rfl) (of_decide_eq_true (by kernel_rfl)) h0 hb hlt0 fun z hz => hsp z (by simp [hz])) (stays laidOut (by kernel_rfl) (of_decide_eq_true (by kernel_rfl)) h1 hb hlt1 fun z hz => hsp z (by simp [hz]))
 exact ⟨_, rfl, post_of_same (pa := p0 ++ p1) (pv := []) hW' (fun _ _ _ => trodAll_mk1 (shut_bool Tryd.underlying4 _)) keep (fun _ _ => rfl) rfl (hb.frame _) hz (ok_one (by kernel_rfl) rfl (okWide_bool_mk Tryd.underlying4 _))⟩
theorem eventChordUp_holds : Rows.EventChordUpSaid :=
 OpenClaim.holds_of_wide 7 Tryd.f7 rfl rfl rfl rfl rfl rfl rfl ⟨rfl, rfl, rfl, rfl, rfl⟩ rfl rfl rfl rfl rfl (by kernel_rfl) Tryd.func7 (by kernel_rfl)
  (of_decide_eq_true (by kernel_rfl)) (by unfold Func.isWrapper; first | (rw [if_pos (by decide +kernel)]; kernel_rfl) | (rw [if_neg (by decide +kernel)]; exact ⟨rfl, rfl⟩))
  (fun os started H enc _ => eventChordUp_lifted os started H enc)
theorem eventChordUpCard_holds : Rows.EventChordUpCardSaid :=
 Claim7.holds_tied_plain_at .later [] [.data, .data, .data, .pinned] true (true, "05f8080cd508d960eaa8421e0ebe10b4d265c2927e885090ab97dfbb070ae6f8") false
  eventChordUp_holds (fun _ h => by cases h) (by kernel_rfl) (fun _ h => by cases h) eventChordUp_row_tie rfl ⟨rfl, rfl⟩ (by kernel_rfl) rfl
  (fun f fn hf hfn => by
    obtain rfl : f = 7 := Option.some.inj ((show Tryd.prog.funcNamed "partita/partitalaw06.EventChordUp" = some 7 by kernel_rfl).symm.trans hf) |>.symm
    obtain rfl : fn = Tryd.f7 := (Option.some.inj (Tryd.func7.symm.trans hfn)).symm
    exact ⟨by kernel_rfl, fun j t ht => by
     rw [Tryd.params7] at ht
     rcases j with _ | _ | j
     ·have h3 : t = 22 := by simpa using ht.symm
      subst h3
      exact (show Tryd.prog.wantsStandIn 22 = false by kernel_rfl)
     ·have h3 : t = 41 := by simpa using ht.symm
      subst h3
      exact (show Tryd.prog.wantsStandIn 41 = false by kernel_rfl)
     ·simp at ht⟩)
  (by kernel_rfl)
end Go.Proofs.YtlbkefgnblajlaaDoor
