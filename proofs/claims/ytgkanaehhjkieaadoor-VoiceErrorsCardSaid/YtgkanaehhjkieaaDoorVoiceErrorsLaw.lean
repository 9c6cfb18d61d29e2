/- VoiceErrors answers true for every argument: the row and its tied card; no condition. -/
import Derived.Test.YtgkanaehhjkieaaDoorVoiceErrorsRun
import Derived.Test.YtgkanaehhjkieaaDoorTie
import Derived.Test.YtgkanaehhjkieaaDoorCards
import Derived.SevenTiedAt
set_option maxRecDepth 100000
namespace Vm.S07
open Go Go.Proofs
theorem f8_c (x0 : (Ks.cons (K.sl rU8) .nil).Ty) (x1 : (Ks.cons (K.int .u8) .nil).Ty) (x2 : (Ks.cons (K.int .u8) .nil).Ty) (k0 : bytesOk ((show List Int from x0).take 400) = true) (k1 : (0 : Int) ≤ (show Int from x1) ∧ (show Int from x1) ≤ (255 : Int)) (k2 : (0 : Int) ≤ (show Int from x2) ∧ (show Int from x2) ≤ (255 : Int)) : Contract Tryd.prog gls 8 [enc false (Ks.cons (K.sl rU8) .nil) x0, enc false (Ks.cons (K.int .u8) .nil) x1, enc false (Ks.cons (K.int .u8) .nil) x2] [] (.bool true) [] := by
  obtain ⟨n, hn⟩ := f8_run (fun v os => some (v, os)) x0 x1 x2 k0 k1 k2
  exact contract_run (fn := (fb Tryd.f8).1) (c := (fb Tryd.f8).2) mixed (ready29 8) (glE29 8) Tryd.func8 (by kernel_rfl) rfl rfl (by kernel_rfl) hn
end Vm.S07
namespace Go.Proofs.YtgkanaehhjkieaaDoor
open Go.ChangeShapes Go.WideShapes Go.ChangeAt Go.WideMaps Go.WideElems Go.RowKit Vm
theorem voiceErrors_lifted (os : Os) (started : os.Started) (H : Type) (enc : TypeId × Value → H) :
    ReturnsInHanded {} Tryd.checked os 8 .any (fun w args => (Rows.voiceErrorsSpec.pre enc Tryd.prog Tryd.f8 [] false w args ∧ laidMetH Tryd.prog theLaid w) ∧ sizedMet enc Tryd.prog Tryd.f8 (OpenSpec.ofChange Rows.voiceErrorsSpec) false w args)
      (Rows.voiceErrorsSpec.post enc Tryd.prog Tryd.f8 false true false false) := by
  refine returnsInHanded_of_change_and (C := Tryd.checked) (X := fun w _ => laidMetH Tryd.prog theLaid w) (fun _ _ _ hh h => h.of_heap hh) own started (by kernel_rfl) Tryd.func8
    (ChangeSpec.witness_shaped (enc := enc) (C := Tryd.checked) (os := os) (X := fun w _ => laidMetH Tryd.prog theLaid w) false (W0 os) #[(.slice none 0 0), (.int .u8 0), (.int .u8 0)] 8 (World.laidAll_os _ _ _) (shaped os) (by kernel_rfl) (by kernel_rfl) (by kernel_rfl) (laid_met os _)) ?_
  intro W base args ds gs before hval0 hW _ _ hL _
  have hval : ∀ (j : Nat) t v, Tryd.f8.params[j]? = some t → args[j]? = some v → Value.okWide Tryd.prog W .any base t v := hval0
  have hW' := hW
  obtain ⟨p, q, hA0, hV, rfl, hfz, hnd⟩ := hW
  have hA : DataW.TrodAll enc Tryd.prog W 0 (fun _ => true) true Tryd.f8.params.toList args.toList ds p := hA0
  rw [Tryd.params8] at hA hval
  obtain ⟨v0, v1, v2, d0, d1, d2, p0, p1, p2, rfl, rfl, rfl, h0, h1, h2⟩ := trodAll_three hA
  obtain ⟨rfl, rfl⟩ := trodVars_none hV
  obtain ⟨x0, o0, hx0⟩ := arg_rep (r := (Ks.cons (K.sl rU8) .nil)) false (by kernel_rfl) rfl (by kernel_rfl) (hval 0 22 v0 rfl rfl) h0
  obtain ⟨x1, o1, hx1⟩ := arg_rep (r := (Ks.cons (K.int .u8) .nil)) false (by kernel_rfl) rfl (by kernel_rfl) (hval 1 5 v1 rfl rfl) h1
  obtain ⟨x2, o2, hx2⟩ := arg_rep (r := (Ks.cons (K.int .u8) .nil)) false (by kernel_rfl) rfl (by kernel_rfl) (hval 2 5 v2 rfl rfl) h2
  have hlt0 : ∀ z ∈ p0, z.block < W.heap.size := fun z hz => hW'.lt z (by simp [hz])
  have hlt1 : ∀ z ∈ p1, z.block < W.heap.size := fun z hz => hW'.lt z (by simp [hz])
  have hlt2 : ∀ z ∈ p2, z.block < W.heap.size := fun z hz => hW'.lt z (by simp [hz])
  clear hA0 hval0
  have k0 : bytesOk ((show List Int from x0).take 400) = true := bytes_ok o0
  have k1 : (0 : Int) ≤ (show Int from x1) ∧ (show Int from x1) ≤ (255 : Int) := wf_u8 o1
  have k2 : (0 : Int) ≤ (show Int from x2) ∧ (show Int from x2) ≤ (255 : Int) := wf_u8 o2
  refine (law_calls (P := Tryd.prog) (gl := S07.gls) (fn := Tryd.f8) (c := (S07.fb Tryd.f8).2) Tryd.func8 (by kernel_rfl) (by kernel_rfl) (S07.f8_c x0 x1 x2 k0 k1 k2) (globs hL) (cs := #[v0, v1, v2]) (fun η h => by
    simp only [V.RepL]; exact ⟨v0, [v1, v2], rfl, hx0 η h, v1, [v2], rfl, hx1 η h, v2, [], rfl, hx2 η h, rfl⟩) rfl).mono fun e W' ⟨he, hb, hz⟩ => ?_
  subst he
  have keep : ∀ sp : Nat → Bool, (∀ z ∈ (p0 ++ p1 ++ p2) ++ [], sp z.block = true) → DataW.TrodAll enc Tryd.prog W' 0 sp true Tryd.f8.params.toList #[v0, v1, v2].toList [d0, d1, d2] (p0 ++ (p1 ++ p2)) := fun sp hsp =>
    trodAll_mk3 (stays laidOut (by kernel_rfl) (of_decide_eq_true (by kernel_rfl)) h0 hb hlt0 fun z hz => hsp z (by simp [hz])) (stays laidOut (by kernel_rfl) (of_decide_eq_true (by kernel_rfl)) h1 hb hlt1 fun z hz => hsp z (by simp [hz])) (stays laidOut (by kernel_rfl) (of_decide_eq_true (by kernel_rfl)) h2 hb hlt2 fun z hz => hsp z (by simp [hz]))
  exact ⟨_, rfl, post_of_same (pa := p0 ++ (p1 ++ p2)) (pv := []) hW' (fun _ _ _ => trodAll_mk1 (shut_bool Tryd.underlying4 _)) keep (fun _ _ => rfl) (by simp) (hb.frame _) hz (ok_one (by kernel_rfl) rfl (okWide_bool_mk Tryd.underlying4 _))⟩

theorem voiceErrors_holds : Rows.VoiceErrorsSaid :=
  OpenClaim.holds_of_wide 8 Tryd.f8 rfl rfl rfl rfl rfl rfl rfl ⟨rfl, rfl, rfl, rfl, rfl⟩ rfl rfl rfl rfl rfl (by kernel_rfl) Tryd.func8 (by kernel_rfl)
    (of_decide_eq_true (by kernel_rfl)) (by unfold Func.isWrapper; first | (rw [if_pos (by decide +kernel)]; kernel_rfl) | (rw [if_neg (by decide +kernel)]; exact ⟨rfl, rfl⟩))
    (fun os started H enc _ => voiceErrors_lifted os started H enc)

theorem voiceErrorsCard_holds : Rows.VoiceErrorsCardSaid :=
  Claim7.holds_tied_plain_at .later [] [.data, .data, .data, .data, .pinned] true (true, "7c5d1e20e5e004a36fde93d755687244870ba1d2b781f56fc53e18a01745c71c") false
    voiceErrors_holds (fun _ h => by cases h) (by kernel_rfl) (fun _ h => by cases h) voiceErrors_row_tie rfl ⟨rfl, rfl⟩ (by kernel_rfl) rfl
    (fun f fn hf hfn => by
      obtain rfl : f = 8 := Option.some.inj ((show Tryd.prog.funcNamed "partita/partitalaw07.VoiceErrors" = some 8 by kernel_rfl).symm.trans hf) |>.symm
      obtain rfl : fn = Tryd.f8 := (Option.some.inj (Tryd.func8.symm.trans hfn)).symm
      exact ⟨by kernel_rfl, fun j t ht => by
        rw [Tryd.params8] at ht
        rcases j with _ | _ | _ | j
        · have h3 : t = 22 := by simpa using ht.symm
          subst h3
          exact (show Tryd.prog.wantsStandIn 22 = false by kernel_rfl)
        · have h3 : t = 5 := by simpa using ht.symm
          subst h3
          exact (show Tryd.prog.wantsStandIn 5 = false by kernel_rfl)
        · have h3 : t = 5 := by simpa using ht.symm
          subst h3
          exact (show Tryd.prog.wantsStandIn 5 = false by kernel_rfl)
        · simp at ht⟩)
    (by kernel_rfl)
end Go.Proofs.YtgkanaehhjkieaaDoor

