/- The statement answers true for every argument: the row and its tied card; no condition. -/
import Derived.Test.YtkhclggkicnndaaDoorPlayerApartRun
import Derived.Test.YtkhclggkicnndaaDoorTie
import Derived.Test.YtkhclggkicnndaaDoorCards
import Derived.SevenTiedAt
set_option maxRecDepth 100000
namespace Vm.S14
open Go Go.Proofs
theorem f10_c (x0 : (Ks.cons (K.sl rNote) .nil).Ty) (x1 : (Ks.cons (K.sl rCall) .nil).Ty) (x2 : rI.Ty) : Contract Tryd.prog gls 10 [enc false (Ks.cons (K.sl rNote) .nil) x0, enc false (Ks.cons (K.sl rCall) .nil) x1, enc false rI x2] [] (.bool true) [] := by
 obtain ⟨n, hn⟩ := f10_run (fun v os => some (v, os)) x1 x2 x0
 exact contract_run (fn := (fb Tryd.f10).1) (c := (fb Tryd.f10).2) mixed (ready32 8) (glE32 8) Tryd.func10 (by kernel_rfl) rfl rfl (by kernel_rfl) hn
end Vm.S14
namespace Go.Proofs.YtkhclggkicnndaaDoor
open Go.ChangeShapes Go.WideShapes Go.ChangeAt Go.WideMaps Go.WideElems Go.RowKit Vm
theorem playerApart_lifted (os : Os) (started : os.Started) (H : Type) (enc : TypeId × Value → H) :
  ReturnsInHanded {} Tryd.checked os 10 .any (fun w args => (Rows.playerApartSpec.pre enc Tryd.prog Tryd.f10 [] false w args ∧ laidMetH Tryd.prog theLaid w) ∧ sizedMet enc Tryd.prog Tryd.f10 (OpenSpec.ofChange Rows.playerApartSpec) false w args)
   (Rows.playerApartSpec.post enc Tryd.prog Tryd.f10 false true false false) := by
 refine returnsInHanded_of_change_and (C := Tryd.checked) (X := fun w _ => laidMetH Tryd.prog theLaid w) (fun _ _ _ hh h => h.of_heap hh) own started (by kernel_rfl) Tryd.func10
  (ChangeSpec.witness_at (enc := enc) (C := Tryd.checked) (os := os) (X := fun w _ => laidMetH Tryd.prog theLaid w) false (W0 os) #[(.slice none 0 0), (.slice none 0 0), (.int .i64 0)] 8 rfl (by kernel_rfl) (by kernel_rfl) (by kernel_rfl) (by kernel_rfl) (by kernel_rfl) (laid_met os _)) ?_
 intro W base args ds gs before hval0 hW _ _ hL _
 have hval : ∀ (j : Nat) t v, Tryd.f10.params[j]? = some t → args[j]? = some v → Value.okWide Tryd.prog W .any base t v := hval0
 have hW' := hW
 obtain ⟨p, q, hA0, hV, rfl, hfz, hnd⟩ := hW
 have hA : DataW.TrodAll enc Tryd.prog W 0 (fun _ => true) true Tryd.f10.params.toList args.toList ds p := hA0
 rw [Tryd.params10] at hA hval
 obtain ⟨v0, v1, v2, d0, d1, d2, p0, p1, p2, rfl, rfl, rfl, h0, h1, h2⟩ := trodAll_three hA
 obtain ⟨rfl, rfl⟩ := trodVars_none hV
 obtain ⟨x0, o0, hx0⟩ := arg_rep (r := (Ks.cons (K.sl rNote) .nil)) false (by kernel_rfl) rfl (by kernel_rfl) (hval 0 22 v0 rfl rfl) h0
 obtain ⟨x1, o1, hx1⟩ := arg_rep (r := (Ks.cons (K.sl rCall) .nil)) false (by kernel_rfl) rfl (by kernel_rfl) (hval 1 50 v1 rfl rfl) h1
 obtain ⟨x2, o2, hx2⟩ := arg_rep (r := rI) false (by kernel_rfl) rfl (by kernel_rfl) (hval 2 3 v2 rfl rfl) h2
 have hlt0 : ∀ z ∈ p0, z.block < W.heap.size := fun z hz => hW'.lt z (by simp [hz])
 have hlt1 : ∀ z ∈ p1, z.block < W.heap.size := fun z hz => hW'.lt z (by simp [hz])
 have hlt2 : ∀ z ∈ p2, z.block < W.heap.size := fun z hz => hW'.lt z (by simp [hz])
 clear hA0 hval0
 refine (law_calls (P := Tryd.prog) (gl := S14.gls) (fn := Tryd.f10) (c := (S14.fb Tryd.f10).2) Tryd.func10 (by kernel_rfl) (by kernel_rfl) (S14.f10_c x0 x1 x2) (globs hL) (cs := #[v0, v1, v2]) (fun η h => by
  simp only [V.RepL]; exact ⟨v0, [v1, v2], rfl, hx0 η h, v1, [v2], rfl, hx1 η h, v2, [], rfl, hx2 η h, rfl⟩) rfl).mono fun e W' ⟨he, hb, hz⟩ => ?_
 subst he
 have keep : ∀ sp : Nat → Bool, (∀ z ∈ (p0 ++ p1 ++ p2) ++ [], sp z.block = true) → DataW.TrodAll enc Tryd.prog W' 0 sp true Tryd.f10.params.toList #[v0, v1, v2].toList [d0, d1, d2] (p0 ++ (p1 ++ p2)) := fun sp hsp =>
  trodAll_mk3 (stays laidOut (by kernel_rfl) (of_decide_eq_true (by kernel_rfl)) h0 hb hlt0 fun z hz => hsp z (by simp [hz])) (stays laidOut (by kernel_rfl) (of_decide_eq_true (by kernel_rfl)) h1 hb hlt1 fun z hz => hsp z (by simp [hz])) (stays laidOut (by kernel_rfl) (of_decide_eq_true (by kernel_rfl)) h2 hb hlt2 fun z hz => hsp z (by simp [hz]))
 exact ⟨_, rfl, post_of_same (pa := p0 ++ (p1 ++ p2)) (pv := []) hW' (fun _ _ _ => trodAll_mk1 (shut_bool Tryd.underlying4 _)) keep (fun _ _ => rfl) (by simp) (hb.frame _) hz (ok_one (by kernel_rfl) rfl (okWide_bool_mk Tryd.underlying4 _))⟩
theorem playerApart_holds : Rows.PlayerApartSaid :=
 OpenClaim.holds_of_wide 10 Tryd.f10 rfl rfl rfl rfl rfl rfl rfl ⟨rfl, rfl, rfl, rfl, rfl⟩ rfl rfl rfl rfl rfl (by kernel_rfl) Tryd.func10 (by kernel_rfl)
  (of_decide_eq_true (by kernel_rfl)) (by unfold Func.isWrapper; first | (rw [if_pos (by decide +kernel)]; kernel_rfl) | (rw [if_neg (by decide +kernel)]; exact ⟨rfl, rfl⟩))
  (fun os started H enc _ => playerApart_lifted os started H enc)
theorem playerApartCard_holds : Rows.PlayerApartCardSaid :=
 Claim7.holds_tied_plain_at .later [] [.handle] true (true, "7227c55144bc419780eb65c715099d15104b424c7d3e16f4dd47391665dc2007") true
  playerApart_holds (fun _ h => by cases h) (by kernel_rfl) (fun _ h => by cases h) playerApart_row_tie rfl ⟨rfl, rfl⟩ (by kernel_rfl) rfl
  (fun f fn hf hfn => by
    obtain rfl : f = 10 := Option.some.inj ((show Tryd.prog.funcNamed "partita/partitalaw14.PlayerApart" = some 10 by kernel_rfl).symm.trans hf) |>.symm
    obtain rfl : fn = Tryd.f10 := (Option.some.inj (Tryd.func10.symm.trans hfn)).symm
    exact ⟨by kernel_rfl, fun j t ht => by
     rw [Tryd.params10] at ht
     rcases j with _ | _ | _ | j
     ·have h3 : t = 22 := by simpa using ht.symm
      subst h3
      exact (show Tryd.prog.wantsStandIn 22 = false by kernel_rfl)
     ·have h3 : t = 50 := by simpa using ht.symm
      subst h3
      exact (show Tryd.prog.wantsStandIn 50 = false by kernel_rfl)
     ·have h3 : t = 3 := by simpa using ht.symm
      subst h3
      exact (show Tryd.prog.wantsStandIn 3 = false by kernel_rfl)
     ·simp at ht⟩)
  (by kernel_rfl)
end Go.Proofs.YtkhclggkicnndaaDoor
