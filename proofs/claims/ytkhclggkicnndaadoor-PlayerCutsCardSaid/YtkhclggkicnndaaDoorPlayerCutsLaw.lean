/- The statement answers true for every argument: the row and its tied card; no condition. -/
import Derived.Test.YtkhclggkicnndaaDoorPlayerCutsRun
import Derived.Test.YtkhclggkicnndaaDoorTie
import Derived.Test.YtkhclggkicnndaaDoorCards
import Derived.SevenTiedAt
set_option maxRecDepth 100000
namespace Vm.S14
open Go Go.Proofs
theorem f3_c (x0 : (Ks.cons (K.sl rNote) .nil).Ty) (x1 : (Ks.cons (K.sl rI) .nil).Ty) : Contract Tryd.prog gls 3 [enc false (Ks.cons (K.sl rNote) .nil) x0, enc false (Ks.cons (K.sl rI) .nil) x1] [] (.bool true) [] := by
 obtain ⟨n, hn⟩ := f3_run (fun v os => some (v, os)) x1 x0
 exact contract_run (fn := (fb Tryd.f3).1) (c := (fb Tryd.f3).2) mixed (ready32 8) (glE32 8) Tryd.func3 (by kernel_rfl) rfl rfl (by kernel_rfl) hn
end Vm.S14
namespace Go.Proofs.YtkhclggkicnndaaDoor
open Go.ChangeShapes Go.WideShapes Go.ChangeAt Go.WideMaps Go.WideElems Go.RowKit Vm
theorem playerCuts_lifted (os : Os) (started : os.Started) (H : Type) (enc : TypeId × Value → H) :
  ReturnsInHanded {} Tryd.checked os 3 .any (fun w args => (Rows.playerCutsSpec.pre enc Tryd.prog Tryd.f3 [] false w args ∧ laidMetH Tryd.prog theLaid w) ∧ sizedMet enc Tryd.prog Tryd.f3 (OpenSpec.ofChange Rows.playerCutsSpec) false w args)
   (Rows.playerCutsSpec.post enc Tryd.prog Tryd.f3 false true false false) := by
 refine returnsInHanded_of_change_and (C := Tryd.checked) (X := fun w _ => laidMetH Tryd.prog theLaid w) (fun _ _ _ hh h => h.of_heap hh) own started (by kernel_rfl) Tryd.func3
  (ChangeSpec.witness_at (enc := enc) (C := Tryd.checked) (os := os) (X := fun w _ => laidMetH Tryd.prog theLaid w) false (W0 os) #[(.slice none 0 0), (.slice none 0 0)] 8 rfl (by kernel_rfl) (by kernel_rfl) (by kernel_rfl) (by kernel_rfl) (by kernel_rfl) (laid_met os _)) ?_
 intro W base args ds gs before hval0 hW _ _ hL _
 have hval : ∀ (j : Nat) t v, Tryd.f3.params[j]? = some t → args[j]? = some v → Value.okWide Tryd.prog W .any base t v := hval0
 have hW' := hW
 obtain ⟨p, q, hA0, hV, rfl, hfz, hnd⟩ := hW
 have hA : DataW.TrodAll enc Tryd.prog W 0 (fun _ => true) true Tryd.f3.params.toList args.toList ds p := hA0
 rw [Tryd.params3] at hA hval
 obtain ⟨v0, v1, d0, d1, p0, p1, rfl, rfl, rfl, h0, h1⟩ := trodAll_two hA
 obtain ⟨rfl, rfl⟩ := trodVars_none hV
 obtain ⟨x0, o0, hx0⟩ := arg_rep (r := (Ks.cons (K.sl rNote) .nil)) false (by kernel_rfl) rfl (by kernel_rfl) (hval 0 22 v0 rfl rfl) h0
 obtain ⟨x1, o1, hx1⟩ := arg_rep (r := (Ks.cons (K.sl rI) .nil)) false (by kernel_rfl) rfl (by kernel_rfl) (hval 1 23 v1 rfl rfl) h1
 have hlt0 : ∀ z ∈ p0, z.block < W.heap.size := fun z hz => hW'.lt z (by simp [hz])
 have hlt1 : ∀ z ∈ p1, z.block < W.heap.size := fun z hz => hW'.lt z (by simp [hz])
 clear hA0 hval0
 refine (law_calls (P := Tryd.prog) (gl := S14.gls) (fn := Tryd.f3) (c := (S14.fb Tryd.f3).2) Tryd.func3 (by kernel_rfl) (by kernel_rfl) (S14.f3_c x0 x1) (globs hL) (cs := #[v0, v1]) (fun η h => by
  simp only [V.RepL]; exact ⟨v0, [v1], rfl, hx0 η h, v1, [], rfl, hx1 η h, rfl⟩) rfl).mono fun e W' ⟨he, hb, hz⟩ => ?_
 subst he
 have keep : ∀ sp : Nat → Bool, (∀ z ∈ (p0 ++ p1) ++ [], sp z.block = true) → DataW.TrodAll enc Tryd.prog W' 0 sp true Tryd.f3.params.toList #[v0, v1].toList [d0, d1] (p0 ++ p1) := fun sp hsp =>
  trodAll_mk2 (stays laidOut (by kernel_rfl) (of_decide_eq_true (by kernel_rfl)) h0 hb hlt0 fun z hz => hsp z (by simp [hz])) (stays laidOut (by kernel_rfl) (of_decide_eq_true (by kernel_rfl)) h1 hb hlt1 fun z hz => hsp z (by simp [hz]))
 exact ⟨_, rfl, post_of_same (pa := p0 ++ p1) (pv := []) hW' (fun _ _ _ => trodAll_mk1 (shut_bool Tryd.underlying4 _)) keep (fun _ _ => rfl) rfl (hb.frame _) hz (ok_one (by kernel_rfl) rfl (okWide_bool_mk Tryd.underlying4 _))⟩
theorem playerCuts_holds : Rows.PlayerCutsSaid :=
 OpenClaim.holds_of_wide 3 Tryd.f3 rfl rfl rfl rfl rfl rfl rfl ⟨rfl, rfl, rfl, rfl, rfl⟩ rfl rfl rfl rfl rfl (by kernel_rfl) Tryd.func3 (by kernel_rfl)
  (of_decide_eq_true (by kernel_rfl)) (by unfold Func.isWrapper; first | (rw [if_pos (by decide +kernel)]; kernel_rfl) | (rw [if_neg (by decide +kernel)]; exact ⟨rfl, rfl⟩))
  (fun os started H enc _ => playerCuts_lifted os started H enc)
theorem playerCutsCard_holds : Rows.PlayerCutsCardSaid :=
 Claim7.holds_tied_plain_at .later [] [.handle] true (true, "7227c55144bc419780eb65c715099d15104b424c7d3e16f4dd47391665dc2007") true
  playerCuts_holds (fun _ h => by cases h) (by kernel_rfl) (fun _ h => by cases h) playerCuts_row_tie rfl ⟨rfl, rfl⟩ (by kernel_rfl) rfl
  (fun f fn hf hfn => by
    obtain rfl : f = 3 := Option.some.inj ((show Tryd.prog.funcNamed "partita/partitalaw14.PlayerCuts" = some 3 by kernel_rfl).symm.trans hf) |>.symm
    obtain rfl : fn = Tryd.f3 := (Option.some.inj (Tryd.func3.symm.trans hfn)).symm
    exact ⟨by kernel_rfl, fun j t ht => by
     rw [Tryd.params3] at ht
     rcases j with _ | _ | j
     ·have h3 : t = 22 := by simpa using ht.symm
      subst h3
      exact (show Tryd.prog.wantsStandIn 22 = false by kernel_rfl)
     ·have h3 : t = 23 := by simpa using ht.symm
      subst h3
      exact (show Tryd.prog.wantsStandIn 23 = false by kernel_rfl)
     ·simp at ht⟩)
  (by kernel_rfl)
end Go.Proofs.YtkhclggkicnndaaDoor
