/- The value machine at work: environments, tables of answers, comparisons, a law's row. -/
import Derived.Test.YtkhclggkicnndaaDoorVmD
import Derived.Laws.StructEq
import Derived.ChangeKeysEq
import Derived.KernelRfl
import Derived.ProofKit
import Derived.LaidMore
import Derived.OpenShut
import Derived.Stop.Joined
namespace Vm
open Go
def bnd {S R : Type} (x : Option S) (k : S → Option R) : Option R := match x with
 | some p => k p
 | none => none
theorem bif_bnd {S R : Type} {c : Bool} {x y : Option R} {x' y' : Option S} {kk : S → Option R} (h : x = bnd x' kk) (h' : y = bnd y' kk) : (bif c then x else y) = bnd (bif c then x' else y') kk := by
 cases c
 ·exact h'
 ·exact h
section nat
variable {E : Env} {S R : Type}
theorem vops_nat (hE : E.Nat) {all : Array Oper} {draw : Bool} (k : St → List Foot → Option R) (k' : St → List Foot → Option S) (kk : S → Option R) (hk : ∀ s ft, k s ft = bnd (k' s ft) kk) :
  (l : List Oper) → (i : Nat) → (s : St) → (ft : List Foot) → vops E all draw i l s ft k = bnd (vops E all draw i l s ft k') kk
 | [], i, s, ft => hk s ft
 | o :: l, i, s, ft => by
   have ih := fun i s ft => vops_nat (all := all) (draw := draw) hE k k' kk hk l i s ft
   have go : ∀ fr, (veff E (look fr) (look s.hp) s.nx o fun v up => vops E all draw (i + 1) l ⟨putF fr o.dst v, up ++ s.hp, s.nx⟩ (if draw then ft ++ [⟨i, rds E (look fr) (look s.hp) o, up.map (·.1)⟩] else ft) k) =
     bnd (veff E (look fr) (look s.hp) s.nx o fun v up => vops E all draw (i + 1) l ⟨putF fr o.dst v, up ++ s.hp, s.nx⟩ (if draw then ft ++ [⟨i, rds E (look fr) (look s.hp) o, up.map (·.1)⟩] else ft) k') kk := fun fr => by
    rw [veff_thn hE, veff_thn hE (R := S)]
    cases veff E (look fr) (look s.hp) s.nx o one with
    | none => rfl
    | some p => exact ih _ _ _
   simp only [vops]
   split
   ·exact go _
   ·split
    ·rfl
    ·split
     ·exact bif_bnd (bif_bnd (go _) (ih _ _ _)) (bif_bnd (ih _ _ _) (go _))
     ·exact ih _ _ _
     ·rfl
theorem vseg_nat (hE : E.Nat) (hnd : E.nd = false) {cs : Cuts} (hcs : ∀ i, cs i = none) {m : Nat} (J : List Item → St → Option R) (J' : List Item → St → Option S) (k : St → Option R) (k' : St → Option S) (kk : S → Option R)
  (hk : ∀ s, k s = bnd (k' s) kk) : (n : Nat) → (first : Bool) → (todo : List Item) → (s : St) →
    vseg E cs m J k n first todo s = bnd (vseg E cs m J' k' n first todo s) kk := by
 intro n
 induction n with
 | zero => intro first todo s; rfl
 | succ n ih =>
   intro first todo s
   match todo with
   | [] => exact hk s
   | .inBlock id :: t => simp only [vseg]; exact ih _ _ _
   | .inLoop c :: t => simp only [vseg]; exact ih _ _ _
   | .inScope c :: t => simp only [vseg]; exact ih _ _ _
   | .endRangeFunc _ :: t => simp only [vseg]; exact hk _
   | .beginRound :: t =>
     simp only [vseg]
     split
     ·rename_i y fr st _
      cases decide (st = 0) with
      | true => exact ih _ _ _
      | false => rfl
     ·rfl
   | .code c :: t =>
     cases c with
     | skip => simp only [vseg]; exact ih _ _ _
     | seq x y => simp only [vseg]; exact ih _ _ _
     | cond c x y =>
       simp only [vseg]
       split
       ·rename_i b hb
        cases b <;> simp only [cond_true, cond_false] <;> exact ih _ _ _
       ·rfl
     | block id c => simp only [vseg]; exact ih _ _ _
     | exit id =>
       simp only [vseg]
       split
       ·exact ih _ _ _
       ·cases inRound t with
        | true => exact hk _
        | false => rfl
     | loop c => simp only [vseg]; exact ih _ _ _
     | scope c => simp only [vseg]; exact ih _ _ _
     | label c => simp only [vseg]; exact ih _ _ _
     | ret =>
       simp only [vseg]
       cases inRound t with
       | true => exact hk _
       | false => exact hk _
     | rangeFunc f ps a b =>
       have : loopCut cs a b = none := by
        unfold loopCut
        split
        ·rfl
        ·exact hcs _
       simp only [vseg, this]; rfl
     | region id ops draw =>
       have run : (vops E ops draw 0 ops.toList s [] fun s' ft =>
         bif !draw || footsOk (ancs ops.toList []) ft then vseg E cs m J k n false t { s' with nx := s'.nx + 64000 } else none) =
         bnd (vops E ops draw 0 ops.toList s [] fun s' ft =>
         bif !draw || footsOk (ancs ops.toList []) ft then vseg E cs m J' k' n false t { s' with nx := s'.nx + 64000 } else none) kk := by
        refine vops_nat hE _ _ _ (fun s' ft => ?_) _ _ _ _
        cases (!draw || footsOk (ancs ops.toList []) ft) with
        | true => exact ih _ _ _
        | false => rfl
       have hsp : splitAt cs id draw = none := by
        unfold splitAt
        cases draw
        ·rfl
        ·exact hcs _
       simp only [vseg, hsp, hnd, Bool.false_and, cond_false, hcs]
       exact run
     | _ => simp only [vseg]; rfl
   | .inRegion _ _ :: t | .inRangeFunc _ :: t | .call _ _ _ _ :: t | .extern _ _ :: t => simp only [vseg]; rfl
theorem vrun_nat (hE : E.Nat) (hnd : E.nd = false) {m F : Nat} (k : St → Option R) (k' : St → Option S) (kk : S → Option R) (hk : ∀ s, k s = bnd (k' s) kk) : (n : Nat) → (todo : List Item) → (s : St) →
  vrun E (fun _ => none) m F k n todo s = bnd (vrun E (fun _ => none) m F k' n todo s) kk
 | 0, _, _ => rfl
 | n + 1, todo, s => by
   simp only [vrun]
   exact vseg_nat hE hnd (fun _ => rfl) _ _ _ _ kk hk F true todo s
theorem vendR_nat {m : Nat} (kk : V → List Ob → Option R) (s : St) : vendR m kk s = bnd (vendR m (fun v os => some (v, os)) s) fun p => kk p.1 p.2 := by
 unfold vendR
 repeat' (first | rfl | split)
theorem loadAt_nat {h : Nat → Option Ob} (n : Nat) (p : V) (k : List V → Option R) (k' : List V → Option S) (kk : S → Option R) (hk : ∀ l, k l = bnd (k' l) kk) : loadAt h n p k = bnd (loadAt h n p k') kk := by
 have cb : ∀ (c : Bool) (x : Option R) (y : Option S), x = bnd y kk → (bif c then x else none) = bnd (bif c then y else none) kk := fun c x y e => by cases c; rfl; exact e
 unfold loadAt; repeat' (first | rfl | exact hk _ | apply cb | split)
theorem vres_nat {s : St} : (rs : List ResultVar) → (k : List V → Option R) → (k' : List V → Option S) → (kk : S → Option R) → (hk : ∀ l, k l = bnd (k' l) kk) → vres E s rs k = bnd (vres E s rs k') kk
 | [], k, k', kk, hk => hk []
 | .tmp t :: rs, k, k', kk, hk => by
   simp only [vres]
   split
   ·exact vres_nat rs _ _ kk fun _ => hk _
   ·rfl
 | .cell a t :: rs, k, k', kk, hk => by
   simp only [vres]
   split
   ·refine loadAt_nat _ _ _ _ kk fun cs => ?_
    split
    ·exact vres_nat rs _ _ kk fun _ => hk _
    ·rfl
   ·rfl
theorem vend_nat {m : Nat} {rs : List ResultVar} {own : Bool} (kk : V → List Ob → Option R) (s : St) : vend E m rs own kk s = bnd (vend E m rs own (fun v os => some (v, os)) s) fun p => kk p.1 p.2 := by
 unfold vend vres1
 refine vres_nat _ _ _ _ fun vs => ?_
 have key : ∀ x : Option (V × List Nat), (match x with
   | none => none
   | some (v, is) => match order (look s.hp) (List.range m) v.ids with
     | none => none
     | some L => match obsOf (look s.hp) (posIn L) L with
       | none => none
       | some os => if is.any L.contains then none else kk (v.ren (posIn L)) os) = bnd (match x with
   | none => none
   | some (v, is) => match order (look s.hp) (List.range m) v.ids with
     | none => none
     | some L => match obsOf (look s.hp) (posIn L) L with
       | none => none
       | some os => if is.any L.contains then none else some (v.ren (posIn L), os)) fun p => kk p.1 p.2 := fun x => by
  repeat' (first | rfl | split)
 split <;> exact key _
end nat
abbrev Answer (R : Type) := List V → List Ob → (V → List Ob → Option R) → Option R
abbrev Tab := (R : Type) → Nat → Option (Answer R)
abbrev Fns := List (Nat × (Func × Code))
def told (tab : Tab) : {R : Type} → Nat → List V → List Ob → (V → List Ob → Option R) → Option R := fun {R} f args os kk => match tab R f with
 | some s => s args os kk
 | none => none
noncomputable def gone (fns : Fns) (tab : Tab) (F : Nat) (E : Env) : {R : Type} → Nat → List V → List Ob → (V → List Ob → Option R) → Option R := fun {R} f args os kk => match tab R f with
 | some s => s args os kk
 | none => bif E.ob f || E.mv (3000000000 + f) then none else match look fns f with
   | none => match args, os with
     | .yld 0 :: vs, .loop y fr 0 :: rest => match E.gl.rf y with
       | some q => bif decide (f = 1000000000 + y) && decide (q.params.size = vs.length) then
        vrun E (fun _ => none) (rest.length + 1) F (vendR (rest.length + 1) kk) 1 (roundTodo q) (startR q vs (.loop y fr 0 :: rest)) else none
       | none => none
     | _, _ => none
   | some fc => bif decide (args.length ≤ fc.1.ntmps) && decide (rootsN args ≤ os.length) then
    vrun E (fun _ => none) (rootsN args) F (vend E (rootsN args) fc.1.results.toList true kk) 1 [.code fc.2] (start args os) else none
noncomputable def interp (fns : Fns) (τ : Nat → Option TI) (gl : Gl) (mv : Nat → Bool) (tab : Tab) (F : Nat) : Nat → Env
 | 0 => ⟨τ, gl, told tab, mv, fun g => (look fns g).isSome, false⟩
 | n + 1 => ⟨τ, gl, gone fns tab F (interp fns τ gl mv tab F n), mv, fun g => (look fns g).isSome, false⟩
theorem rfOk_none {rf : Nat → Option RF} {nt : Nat} : (c : Code) → RfOk rf nt (fun _ => none) c
 | .rangeFunc _ ps a b => fun y keep h => by
   unfold loopCut at h
   split at h <;> cases h
 | .seq a b => ⟨rfOk_none a, rfOk_none b⟩
 | .cond _ a b => ⟨rfOk_none a, rfOk_none b⟩
 | .block _ a => rfOk_none a
 | .loop a => rfOk_none a
 | .scope a => rfOk_none a
 | .skip => trivial
 | .region _ _ _ => trivial
 | .exit _ => trivial
 | .label _ => trivial
 | .goto _ => trivial
 | .ret => trivial
 | .refuse _ => trivial
def noRf : Code → Bool
 | .rangeFunc _ _ _ _ => false
 | .seq a b | .cond _ a b => noRf a && noRf b
 | .block _ a | .loop a | .scope a => noRf a
 | _ => true
theorem rfOk_no {rf : Nat → Option RF} {nt : Nat} {cs : Cuts} : {c : Code} → noRf c = true → RfOk rf nt cs c
 | .rangeFunc _ ps a b, h => by cases h
 | .seq a b, h => by simp only [noRf, Bool.and_eq_true] at h; exact ⟨rfOk_no h.1, rfOk_no h.2⟩
 | .cond _ a b, h => by simp only [noRf, Bool.and_eq_true] at h; exact ⟨rfOk_no h.1, rfOk_no h.2⟩
 | .block _ a, h => rfOk_no (c := a) h
 | .loop a, h => rfOk_no (c := a) h
 | .scope a, h => rfOk_no (c := a) h
 | .skip, _ => trivial
 | .region _ _ _, _ => trivial
 | .exit _, _ => trivial
 | .label _, _ => trivial
 | .goto _, _ => trivial
 | .ret, _ => trivial
 | .refuse _, _ => trivial
structure FnsOk (P : Program) (fns : Fns) : Prop where
 fn : ∀ f fc, look fns f = some fc → P.funcs[f]? = some fc.1 ∧ fc.1.body = some fc.2 ∧ fnB fc.1 fc.2 0 = true ∧ f < 1000000000
def rfB (q : RF) : Bool := codeB q.nt q.assign && codeB q.nt q.body && q.params.all (fun p => decide (p < q.nt))
def RfsOk (gl : Gl) : Prop := ∀ y q, gl.rf y = some q → rfB q = true
structure TabOk (P : Program) (gl : Gl) (mv : Nat → Bool) (tab : Tab) : Prop where
 nat : ∀ (R S : Type) f args os (k : V → List Ob → Option R) (k' : V → List Ob → Option S) (kk : S → Option R), (∀ v os, k v os = bnd (k' v os) kk) → (match tab R f with
  | some s => s args os k
  | none => none) = bnd (match tab S f with
  | some s => s args os k'
  | none => none) kk
 same : ∀ (R S : Type) f, (tab R f).isSome = (tab S f).isSome
 says : ∀ f s args os v os', tab (V × List Ob) f = some s → s args os (fun v os => some (v, os)) = some (v, os') → Said (mv (2000000000 + f)) (Nat.ble 1000000000 f || mv (3000000000 + f)) P gl f args os v os'
section
variable {P : Program} {fns : Fns} {τ : Nat → Option TI} {gl : Gl} {mv : Nat → Bool} {tab : Tab} {F : Nat}
theorem nat_of {E : Env} (h : ∀ (R : Type) f args os (kk : V → List Ob → Option R), E.Γ f args os kk = bnd (E.Γ f args os fun v o => some (v, o)) fun p => kk p.1 p.2) : E.Nat := fun R f args os kk => by
 rw [h]
 cases E.Γ f args os (fun v o => some (v, o)) <;> rfl
theorem interp_nd (n : Nat) : (interp fns τ gl mv tab F n).nd = false := by cases n <;> rfl
theorem interp_body (hf : FnsOk P fns) (n : Nat) : ∀ g, (interp fns τ gl mv tab F n).hasBody g = true → g < 1000000000 ∧ ∃ fn c, P.funcs[g]? = some fn ∧ fn.body = some c ∧ fn.name ≠ "runtime.NumGoroutine" := by
 intro g hg
 have h : (look fns g).isSome = true := by cases n <;> exact hg
 obtain ⟨fc, hfc⟩ := Option.isSome_iff_exists.1 h
 obtain ⟨h1, h2, h3, h4⟩ := hf.fn g fc hfc
 unfold fnB at h3
 simp only [Bool.and_eq_true, bne_iff_ne] at h3
 exact ⟨h4, _, _, h1, h2, h3.1.1⟩
theorem interp_nat (ht : TabOk P gl mv tab) : (n : Nat) → (interp fns τ gl mv tab F n).Nat
 | 0 => nat_of fun R f args os kk => by
   have := ht.nat R (V × List Ob) f args os kk (fun v os => some (v, os)) (fun p => kk p.1 p.2) fun _ _ => rfl
   exact this
 | n + 1 => nat_of fun R f args os kk => by
   have ih := interp_nat ht n
   have h1 := ht.nat R (V × List Ob) f args os kk (fun v os => some (v, os)) (fun p => kk p.1 p.2) fun _ _ => rfl
   have h2 := ht.same R (V × List Ob) f
   show gone fns tab F (interp fns τ gl mv tab F n) f args os kk = bnd (gone fns tab F (interp fns τ gl mv tab F n) f args os fun v o => some (v, o)) fun p => kk p.1 p.2
   unfold gone
   cases e : tab R f with
   | some s =>
     rw [e] at h1 h2
     cases e' : tab (V × List Ob) f with
     | some s' => rw [e'] at h1; exact h1
     | none => rw [e'] at h2; cases h2
   | none =>
     rw [e] at h2
     cases e' : tab (V × List Ob) f with
     | some s' => rw [e'] at h2; cases h2
     | none =>
       dsimp only
       cases (Env.ob (interp fns τ gl mv tab F n) f || Env.mv (interp fns τ gl mv tab F n) (3000000000 + f)) with
       | true => rfl
       | false =>
       simp only [cond_false]
       cases look fns f with
       | none =>
         dsimp only
         split
         ·split
          ·rename_i y fr rest _ q _
           cases (decide (f = 1000000000 + y) && _) with
           | false => rfl
           | true => exact vrun_nat ih (interp_nd n) _ _ _ (fun s => vendR_nat kk s) 1 _ _
          ·rfl
         ·rfl
       | some fc =>
         dsimp only
         cases (decide (args.length ≤ fc.1.ntmps) && decide (rootsN args ≤ os.length)) with
         | false => rfl
         | true =>
           simp only [cond_true]
           exact vrun_nat ih (interp_nd n) _ _ _ (fun s => vend_nat kk s) 1 _ _
theorem interp_ready (hP : P.follows .mixedOrders = true) (hf : FnsOk P fns) (hrfs : RfsOk gl) (ht : TabOk P gl mv tab) (he : ∀ n, EnvOk P (interp fns τ gl mv tab F n)) : (n : Nat) → Ready P (interp fns τ gl mv tab F n)
 | 0 => ⟨he 0, interp_nat ht 0, calls_ok (interp_nat ht 0) (fun f args os v os' hΓ => by
     have hΓ' : (told tab f args os fun v os => some (v, os)) = some (v, os') := hΓ
     unfold told at hΓ'
     split at hΓ'
     ·exact ht.says f _ args os v os' (by assumption) hΓ'
     ·cases hΓ'), interp_body hf 0⟩
 | n + 1 => ⟨he (n + 1), interp_nat ht (n + 1), calls_ok (interp_nat ht (n + 1)) (fun f args os v os' hΓ => by
     have ih := interp_ready hP hf hrfs ht he n
     have hΓ' : (gone fns tab F (interp fns τ gl mv tab F n) f args os fun v os => some (v, os)) = some (v, os') := hΓ
     unfold gone at hΓ'
     split at hΓ'
     ·exact ht.says f _ args os v os' (by assumption) hΓ'
     ·have hgl : (interp fns τ gl mv tab F n).gl = gl := by cases n <;> rfl
      have hgl' : (interp fns τ gl mv tab F (n + 1)).gl = gl := rfl
      have hob : Env.ob (interp fns τ gl mv tab F n) f = Env.ob (interp fns τ gl mv tab F (n + 1)) f := by cases n <;> rfl
      have hmv : Env.mv (interp fns τ gl mv tab F n) (3000000000 + f) = Env.mv (interp fns τ gl mv tab F (n + 1)) (3000000000 + f) := by cases n <;> rfl
      rw [hob, hmv] at hΓ'
      cases ho : Env.ob (interp fns τ gl mv tab F (n + 1)) f with
      | true => rw [ho] at hΓ'; cases hΓ'
      | false =>
      rw [ho, Bool.false_or] at hΓ'
      unfold Env.stay
      cases hm3 : Env.mv (interp fns τ gl mv tab F (n + 1)) (3000000000 + f) with
      | true => rw [hm3] at hΓ'; cases hΓ'
      | false =>
      rw [hm3, cond_false] at hΓ'
      rw [Bool.or_false]
      unfold Said
      rw [cond_false]
      split at hΓ'
      ·split at hΓ'
       ·rename_i vs y fr rest
        split at hΓ'
        ·rename_i q hq
         cases hc : (decide (f = 1000000000 + y) && decide (q.params.size = vs.length)) with
         | false => rw [hc, cond_false] at hΓ'; cases hΓ'
         | true =>
           rw [hc, cond_true] at hΓ'
           simp only [Bool.and_eq_true, decide_eq_true_eq] at hc
           obtain ⟨rfl, hc2⟩ := hc
           have hb := hrfs y q (by rw [← hgl]; exact hq)
           unfold rfB at hb
           simp only [Bool.and_eq_true] at hb
           rw [show Nat.ble 1000000000 (1000000000 + y) = true from by rw [Nat.ble_eq]; omega, cond_true]
           rw [hgl', ← hgl]
           exact contract_round (m := rest.length + 1) (by omega) hP ih hq (by unfold roundB; simp only [Bool.and_eq_true, decide_eq_true_eq]; exact ⟨⟨⟨hb.1.1, hb.1.2⟩, hc2⟩, hb.2⟩) ⟨rfOk_none _, rfOk_none _⟩ hΓ' (Nat.le_refl _)
        ·cases hΓ'
       ·cases hΓ'
      ·rename_i fc hfc
       obtain ⟨h1, h2, h3, h30⟩ := hf.fn f fc hfc
       cases hc : (decide (args.length ≤ fc.1.ntmps) && decide (rootsN args ≤ os.length)) with
       | false => rw [hc, cond_false] at hΓ'; cases hΓ'
       | true =>
         rw [hc, cond_true] at hΓ'
         simp only [Bool.and_eq_true, decide_eq_true_eq] at hc
         have h4 : fnB fc.1 fc.2 args.length = true := by
          unfold fnB at h3 ⊢
          simp only [Bool.and_eq_true, decide_eq_true_eq] at h3 ⊢
          exact ⟨h3.1, hc.1⟩
         have hfl : Nat.ble 1000000000 f = false := by
          cases hb : Nat.ble 1000000000 f with
          | false => rfl
          | true => rw [Nat.ble_eq] at hb; omega
         rw [hfl, cond_false]
         rw [hgl', ← hgl]
         exact contract_of hP ih h1 h2 h4 h30 (rfOk_none _) hΓ' hc.2), interp_body hf (n + 1)⟩
end
end Vm
open Go
namespace Vm
def findCut (id : Nat) : Code → List Item → Option (List Item)
 | .region i ops d, t => if i = id then some (.code (.region i ops d) :: t) else none
 | .seq a b, t => match findCut id a (.code b :: t) with
   | some r => some r
   | none => findCut id b t
 | .cond _ a b, t => match findCut id a t with
   | some r => some r
   | none => findCut id b t
 | .block n c, t => findCut id c (.inBlock n :: t)
 | .loop c, t => findCut id c (.inLoop c :: t)
 | .scope c, t => findCut id c (.inScope c :: t)
 | _, _ => none
def itemsAt (c : Code) (id : Nat) : List Item := (findCut id c []).getD []
def findRF (id nt : Nat) : Code → Option RF
 | .rangeFunc _ ps a b => if (match firstReg a with
  | some i => some i
  | none => firstReg b) = some id then some ⟨ps, a, b, nt⟩ else match findRF id nt a with
  | some r => some r
  | none => findRF id nt b
 | .seq a b | .cond _ a b => match findRF id nt a with
   | some r => some r
   | none => findRF id nt b
 | .block _ a | .loop a | .scope a => findRF id nt a
 | _ => none
def rfOf (p : Func × Code) (id : Nat) : RF := (findRF id p.1.ntmps p.2).getD ⟨#[], .skip, .skip, 0⟩
def rfList (cs : Cuts) (nt : Nat) : Code → List (Nat × RF)
 | .rangeFunc _ ps a b => match loopCut cs a b with
   | some (y :: _) => [(y, ⟨ps, a, b, nt⟩)]
   | _ => []
 | .seq a b | .cond _ a b => rfList cs nt a ++ rfList cs nt b
 | .block _ a | .loop a | .scope a => rfList cs nt a
 | _ => []
theorem rfOk_list {rf : Nat → Option RF} {nt : Nat} {cs : Cuts} : {c : Code} → (∀ p ∈ rfList cs nt c, rf p.1 = some p.2) → RfOk rf nt cs c
 | .rangeFunc _ ps a b, h => fun y keep e => by
   have : rfList cs nt (.rangeFunc ‹_› ps a b) = [(y, ⟨ps, a, b, nt⟩)] := by simp only [rfList, e]
   rw [this] at h
   exact h (y, ⟨ps, a, b, nt⟩) (by simp)
 | .seq a b, h => ⟨rfOk_list fun p hp => h p (by simp [rfList, hp]), rfOk_list fun p hp => h p (by simp [rfList, hp])⟩
 | .cond _ a b, h => ⟨rfOk_list fun p hp => h p (by simp [rfList, hp]), rfOk_list fun p hp => h p (by simp [rfList, hp])⟩
 | .block _ a, h => rfOk_list (c := a) h
 | .loop a, h => rfOk_list (c := a) h
 | .scope a, h => rfOk_list (c := a) h
 | .skip, _ => trivial
 | .region _ _ _, _ => trivial
 | .exit _, _ => trivial
 | .label _, _ => trivial
 | .goto _, _ => trivial
 | .ret, _ => trivial
 | .refuse _, _ => trivial
theorem rfOk_one {rf : Nat → Option RF} {nt : Nat} {cs : Cuts} {c : Code} {y : Nat} {q : RF} (h : rfList cs nt c = [(y, q)]) (h2 : rf y = some q) : RfOk rf nt cs c :=
 rfOk_list fun p hp => by rw [h] at hp; simp only [List.mem_singleton] at hp; subst hp; exact h2
def Env.nds (E : Env) : Env := { E with nd := true }
theorem Ready.nds {P : Program} {E : Env} (h : Ready P E) : Ready P E.nds := ⟨⟨h.env.ty, h.env.eqs, h.env.key⟩, h.nat, h.calls, h.body⟩
end Vm
namespace Vm
open Go
structure Entry (P : Program) (gl : Gl) where
 f : Nat
 g : List V → List Ob → Option (Bool × V × List Ob)
 ob : Bool := false
 fl : Bool := false
 says : ∀ args os c v os', g args os = some (c, v, os') → c = true → Said ob fl P gl f args os v os'
 br : List V → List Ob → Option (Bool × Bool × (V × List Ob) × (V × List Ob)) := fun _ _ => none
 brSays : ∀ args os c b p q, br args os = some (c, b, p, q) → c = true → Said ob fl P gl f args os (bif b then p else q).1 (bif b then p else q).2 := by
  intro _ _ _ _ _ _ h; cases h
def Entry.ans {P : Program} {gl : Gl} (e : Entry P gl) (R : Type) : Answer R := fun args os kk => match e.br args os with
 | some q => bif q.1 then (bif q.2.1 then kk q.2.2.1.1 q.2.2.1.2 else kk q.2.2.2.1 q.2.2.2.2) else none
 | none => match e.g args os with
   | some q => bif q.1 then kk q.2.1 q.2.2 else none
   | none => none
def tabOf {P : Program} {gl : Gl} : List (Entry P gl) → Tab
 | [], _, _ => none
 | e :: l, R, f => bif Nat.beq e.f f then some (e.ans R) else tabOf l R f
section
variable {P : Program} {gl : Gl}
theorem Entry.ans_nat (e : Entry P gl) {R S : Type} (args : List V) (os : List Ob) (k : V → List Ob → Option R) (k' : V → List Ob → Option S) (kk : S → Option R) (h : ∀ v os, k v os = bnd (k' v os) kk) :
  e.ans R args os k = bnd (e.ans S args os k') kk := by
 unfold Entry.ans
 cases e.br args os with
 | some q =>
   obtain ⟨c, b, p, q⟩ := q
   cases c with
   | true => cases b with
     | true => exact h _ _
     | false => exact h _ _
   | false => rfl
 | none =>
   cases e.g args os with
   | none => rfl
   | some q =>
     obtain ⟨c, v, os'⟩ := q
     cases c with
     | true => exact h v os'
     | false => rfl
def obB (mv : Nat → Bool) (l : List (Entry P gl)) : Bool := l.all fun e => e.ob == mv (2000000000 + e.f) && e.fl == (Nat.ble 1000000000 e.f || mv (3000000000 + e.f))
theorem tab_ok {mv : Nat → Bool} (l : List (Entry P gl)) (hob : obB mv l = true) : TabOk P gl mv (tabOf l) where
 nat := fun R S f args os k k' kk h => by
  clear hob
  induction l with
  | nil => rfl
  | cons e l ih =>
    simp only [tabOf]
    cases Nat.beq e.f f with
    | true => exact e.ans_nat args os k k' kk h
    | false => exact ih
 same := fun R S f => by
  clear hob
  induction l with
  | nil => rfl
  | cons e l ih =>
    simp only [tabOf]
    cases Nat.beq e.f f with
    | true => rfl
    | false => exact ih
 says := fun f s args os v os' hs hv => by
  induction l with
  | nil => cases hs
  | cons e l ih =>
    simp only [tabOf] at hs
    cases hb : Nat.beq e.f f with
    | true =>
      rw [hb, cond_true] at hs
      cases hs
      have := Nat.eq_of_beq_eq_true hb
      subst this
      have ho : e.ob = mv (2000000000 + e.f) ∧ e.fl = (Nat.ble 1000000000 e.f || mv (3000000000 + e.f)) := by
       unfold obB at hob
       simp only [List.all_cons, Bool.and_eq_true, beq_iff_eq] at hob
       exact hob.1
      rw [← ho.1, ← ho.2]
      unfold Entry.ans at hv
      cases hr : e.br args os with
      | some q =>
        obtain ⟨c, b, p, q⟩ := q
        rw [hr] at hv
        have hs := e.brSays args os c b p q hr
        cases c with
        | true =>
          have hs := hs rfl
          cases b with
          | true =>
            simp only [cond_true, Option.some.injEq, Prod.mk.injEq] at hv
            obtain ⟨rfl, rfl⟩ := hv
            exact hs
          | false =>
            simp only [cond_true, cond_false, Option.some.injEq, Prod.mk.injEq] at hv
            obtain ⟨rfl, rfl⟩ := hv
            exact hs
        | false => cases hv
      | none =>
      rw [hr] at hv
      cases hg : e.g args os with
      | none => rw [hg] at hv; cases hv
      | some q =>
        obtain ⟨c, v', os''⟩ := q
        rw [hg] at hv
        cases c with
        | true =>
          simp only [cond_true, Option.some.injEq, Prod.mk.injEq] at hv
          obtain ⟨rfl, rfl⟩ := hv
          exact e.says args os true v' os'' hg rfl
        | false => cases hv
    | false =>
      rw [hb, cond_false] at hs
      unfold obB at hob
      rw [List.all_cons, Bool.and_eq_true] at hob
      exact ih hob.2 hs
def rd (a : Bool) (r : Ks) (v : V) : Option r.Ty := bif isAggV v == a then Ks.close r (cellsOf v) else none
def enc (a : Bool) (r : Ks) (x : r.Ty) : V := bif a then .agg (r.cells x) else (r.cells x).headD .undef
theorem rd_rep {w : World} {A : ASet} {η : Nat → Option Nat} {h : Nat → Option Ob} {a : Bool} {r : Ks} {v : V} {x : r.Ty} (hx : rd a r v = some x) (h1 : a = false → r.len = 1) {c : Value} (hr : V.Rep w A η h v c) : V.Rep w A η h (enc a r x) c := by
 unfold rd at hx
 cases ha : (isAggV v == a) with
 | false => rw [ha, cond_false] at hx; cases hx
 | true =>
   rw [ha, cond_true] at hx
   have ha := eq_of_beq ha
   cases v with
   | agg l =>
     simp only [isAggV] at ha
     subst ha
     simp only [cellsOf] at hx
     simp only [V.Rep] at hr
     obtain ⟨cs, rfl, hl⟩ := hr
     simp only [enc, cond_true, V.Rep]
     exact ⟨cs, rfl, RowVals.repL r x _ (RowVals.close r l x hx hl)⟩
   | _ =>
     simp only [isAggV] at ha
     subst ha
     have hrow := RowVals.close r _ x hx (cs := [c]) (by simp only [cellsOf, V.RepL]; exact ⟨c, [], rfl, hr, rfl⟩)
     have hrep := RowVals.repL (η := η) (h := h) r x _ hrow
     have hlen := Ks.cells_length r x
     rw [h1 rfl] at hlen
     obtain ⟨u, hu⟩ := List.length_eq_one_iff.1 hlen
     rw [hu] at hrep
     simp only [V.RepL] at hrep
     obtain ⟨c', l, e, h2, _⟩ := hrep
     cases e
     simp only [enc, cond_false, hu, List.headD_cons]
     exact h2
theorem leaf_ids : (k : K) → (x : k.Ty) → (k.leaf x).ids = [] ∧ (k.leaf x).roots = []
 | .int _, _ => ⟨rfl, rfl⟩
 | .bool, _ => ⟨rfl, rfl⟩
 | .str, _ => ⟨rfl, rfl⟩
 | .sl _, _ => ⟨rfl, rfl⟩
theorem cells_ids : (r : Ks) → (x : r.Ty) → V.idsL (r.cells x) = [] ∧ V.rootsL (r.cells x) = []
 | .nil, _ => ⟨rfl, rfl⟩
 | .cons k .nil, x => by simp only [Ks.cells, V.idsL, V.rootsL]; rw [(leaf_ids k x).1, (leaf_ids k x).2]; exact ⟨rfl, rfl⟩
 | .cons k (.cons k' r), x => by
   simp only [Ks.cells, V.idsL, V.rootsL]
   rw [(leaf_ids k x.1).1, (leaf_ids k x.1).2, (cells_ids (.cons k' r) x.2).1, (cells_ids (.cons k' r) x.2).2]
   exact ⟨rfl, rfl⟩
theorem enc_ids (a : Bool) (r : Ks) (x : r.Ty) : (enc a r x).ids = [] ∧ (enc a r x).roots = [] := by
 unfold enc
 cases a with
 | true => simp only [cond_true, V.ids, V.roots]; exact cells_ids r x
 | false =>
   simp only [cond_false]
   have := cells_ids r x
   cases hc : r.cells x with
   | nil => exact ⟨rfl, rfl⟩
   | cons u l =>
     rw [hc] at this
     simp only [V.idsL, V.rootsL, List.append_eq_nil_iff] at this
     exact ⟨this.1.1, this.2.1⟩
theorem close_ids : (r : Ks) → (l : List V) → (x : r.Ty) → Ks.close r l = some x → V.idsL l = [] ∧ V.rootsL l = [] := by
 have leaf : ∀ (k : K) (v : V) (x : k.Ty), k.close v = some x → v.ids = [] ∧ v.roots = [] := by
  intro k v x hc
  cases k with
  | int k => cases v <;> simp [K.close] at hc <;> exact ⟨rfl, rfl⟩
  | bool => cases v <;> simp [K.close] at hc <;> exact ⟨rfl, rfl⟩
  | str => cases v <;> simp [K.close] at hc <;> exact ⟨rfl, rfl⟩
  | sl r => cases v <;> simp [K.close] at hc <;> exact ⟨rfl, rfl⟩
 intro r
 cases r with
 | nil =>
   intro l x hc
   cases l with
   | nil => exact ⟨rfl, rfl⟩
   | cons v l => simp [Ks.close] at hc
 | cons k r =>
   induction r using Ks.rec (motive_1 := fun _ => True) generalizing k with
   | nil =>
     intro l x hc
     obtain ⟨v, rfl, hv⟩ := Ks.close_one hc
     obtain ⟨h1, h2⟩ := leaf k v x hv
     simp [V.idsL, V.rootsL, h1, h2]
   | cons k' r' _ ih =>
     intro l x hc
     obtain ⟨v, vs, rfl, hv, hvs⟩ := Ks.close_cons hc
     obtain ⟨h1, h2⟩ := leaf k v x.1 hv
     obtain ⟨h3, h4⟩ := ih k' vs x.2 hvs
     simp [V.idsL, V.rootsL, h1, h2, h3, h4]
   | _ => trivial
theorem rd_ids {a : Bool} {r : Ks} {v : V} {x : r.Ty} (hx : rd a r v = some x) : v.ids = [] ∧ v.roots = [] := by
 unfold rd at hx
 cases ha : (isAggV v == a) with
 | false => rw [ha, cond_false] at hx; cases hx
 | true =>
   rw [ha, cond_true] at hx
   have := close_ids r _ x hx
   cases v <;> simp only [cellsOf, V.idsL, V.rootsL, List.append_nil] at this <;> first | exact this | exact this
theorem Contract.args {f : Nat} {args args' : List V} {os os' : List Ob} {v : V} (hc : Contract P gl f args' os v os') (hr : ∀ (w : World) (A : ASet) (η : Nat → Option Nat) (cs : List Value), V.RepL w A η (obs os) args cs → V.RepL w A η (obs os) args' cs)
  (hi : V.idsL args' = []) (hro : rootsN args = rootsN args') : Contract P gl f args os v os' := by
 intro w A η ok cs hrep hdom o a Q K hK
 exact hc w A η ok cs (hr w A η _ hrep) (by simp [hi]) o a Q K (by rw [← hro]; exact hK)
variable (f : Nat)
def Entry.one (a₁ : Bool) (r₁ : Ks) (h₁ : a₁ = false → r₁.len = 1) (g : r₁.Ty → Bool × V) (says : ∀ x, (g x).1 = true → Contract P gl f [enc a₁ r₁ x] [] (g x).2 []) : Entry P gl where
 f := f
 g := fun args os => match args, os with
   | [v], [] => match rd a₁ r₁ v with
     | some x => some ((g x).1, (g x).2, [])
     | none => none
   | _, _ => none
 says := fun args os c v os' h hc => by
  split at h
  ·rename_i v₁
   split at h
   ·rename_i x hx
    cases h
    refine (says x hc).args (fun w A η cs hr => ?_) (by simp [V.idsL, (enc_ids a₁ r₁ x).1]) (by simp [rootsN, V.rootsL, (enc_ids a₁ r₁ x).2, (rd_ids hx).2])
    simp only [V.RepL] at hr ⊢
    obtain ⟨c, l, rfl, h2, h3⟩ := hr
    exact ⟨c, l, rfl, rd_rep hx h₁ h2, h3⟩
   ·cases h
  ·cases h
def Entry.two (a₁ : Bool) (r₁ : Ks) (a₂ : Bool) (r₂ : Ks) (h₁ : a₁ = false → r₁.len = 1) (h₂ : a₂ = false → r₂.len = 1) (g : r₁.Ty → r₂.Ty → Bool × V)
    (says : ∀ x y, (g x y).1 = true → Contract P gl f [enc a₁ r₁ x, enc a₂ r₂ y] [] (g x y).2 []) : Entry P gl where
 f := f
 g := fun args os => match args, os with
   | [v, u], [] => match rd a₁ r₁ v, rd a₂ r₂ u with
     | some x, some y => some ((g x y).1, (g x y).2, [])
     | _, _ => none
   | _, _ => none
 says := fun args os c v os' h hc => by
  split at h
  ·rename_i v₁ v₂
   split at h
   ·rename_i x y hx hy
    cases h
    refine (says x y hc).args (fun w A η cs hr => ?_) (by simp [V.idsL, (enc_ids a₁ r₁ x).1, (enc_ids a₂ r₂ y).1]) (by simp [rootsN, V.rootsL, (enc_ids a₁ r₁ x).2, (enc_ids a₂ r₂ y).2, (rd_ids hx).2, (rd_ids hy).2])
    simp only [V.RepL] at hr ⊢
    obtain ⟨c, l, rfl, h2, c', l', rfl, h3, h4⟩ := hr
    exact ⟨c, _, rfl, rd_rep hx h₁ h2, c', l', rfl, rd_rep hy h₂ h3, h4⟩
   ·cases h
  ·cases h
theorem vrun_succ (E : Env) {R : Type} (cs : Cuts) (m F : Nat) (k : St → Option R) (n : Nat) (t : List Item) (s : St) : vrun E cs m F k (n + 1) t s = vseg E cs m (vrun E cs m F k n) k F true t s := rfl
end
end Vm
namespace Vm
open Go
theorem ba_beq (a b : List UInt8) : ((⟨a.toArray⟩ : ByteArray) == ⟨b.toArray⟩) = (a == b) := by
 rw [beq_toListBytes, byteArray_toList, byteArray_toList]
inductive Cel where
 | ci (k : IntKind) (n : Int) | cb (v : Bool) | cs (v : List UInt8)
def Cel.val : Cel → Value
 | .ci k n => .int k n
 | .cb b => .bool b
 | .cs s => .string ⟨s.toArray⟩
def Cel.kind : Cel → K
 | .ci k _ => .int k
 | .cb _ => .bool
 | .cs _ => .str
def Cel.eq : Cel → Cel → Bool
 | .ci _ a, .ci _ b => beqInt a b
 | .cb a, .cb b => beqBool a b
 | .cs a, .cs b => beqStr a b
 | _, _ => false
def eqL : List Cel → List Cel → Bool
 | x :: xs, y :: ys => x.eq y && eqL xs ys
 | _, _ => true
def flatFs (P : Program) (go : TypeId → Option (List K)) : List Field → Nat → Option (List K)
 | [], _ => some []
 | f :: fs, off => if f.name ≠ "_" ∧ f.offset = off then match go f.type, P.info? f.type with
     | some l, some i => if i.size = l.length then match flatFs P go fs (off + l.length) with
        | some m => some (l ++ m)
        | none => none
       else none
     | _, _ => none
   else none
def flatK (P : Program) : Nat → TypeId → Option (List K)
 | 0, _ => none
 | d + 1, t => match P.underlying t with
   | some (.int k) => some [.int k]
   | some .bool => some [.bool]
   | some .string => some [.str]
   | some (.struct fs) => if P.stoodInHeld t then none else flatFs P (flatK P d) fs.toList 0
   | some (.array n e) => match flatK P d e, P.info? e with
     | some l, some i => if i.size = l.length then some (List.replicate n l).flatten else none
     | _, _ => none
   | _ => none
def isStruct (P : Program) (t : TypeId) : Bool := match P.underlying t with
 | some (.struct _) => true
 | some (.array _ _) => true
 | _ => false
def mkC (P : Program) (t : TypeId) (xs : List Cel) : Value := if isStruct P t then .agg (xs.map Cel.val).toArray else ((xs.map Cel.val).headD undef)
section
variable {P : Program}
theorem eqL_append : {xs xs' ys ys' : List Cel} → xs.length = xs'.length → eqL (xs ++ ys) (xs' ++ ys') = (eqL xs xs' && eqL ys ys')
 | [], [], ys, ys', _ => rfl
 | x :: xs, x' :: xs', ys, ys', h => by simp only [List.cons_append, eqL]; rw [eqL_append (by simpa using h), Bool.and_assoc]
 | [], _ :: _, _, _, h => by simp at h
 | _ :: _, [], _, _, h => by simp at h
theorem part_mk {go : TypeId → Option (List K)} {t : TypeId} {l : List K} {i : TypeInfo} (hi : P.info? t = some i) (hs : i.size = l.length) {d : Nat} (hl : flatK P d t = some l) (pre xs post : List Cel) (hx : xs.map Cel.kind = l) (w : World) :
  (part t ((pre ++ xs ++ post).map Cel.val).toArray pre.length).run P w = .ok (mkC P t xs) w := by
 have hlen : xs.length = l.length := by rw [← hx]; simp
 cases d with
 | zero => cases hl
 | succ d =>
   simp only [flatK] at hl
   have sz : ∀ w, (Go.sizeOf t).run P w = .ok i.size w := fun w => by simp [Go.sizeOf, typeInfo, hi]
   split at hl
   case h_4 fs hu =>
    simp only [part, isAgg, mkC, isStruct, hu, Sem.run_bind, run_underlying hu, Result.andThen_ok, if_true, Sem.run_pure, sz]
    congr 2
    rw [hs, ← hlen]
    apply Array.ext'
    simp [List.extract_eq_take_drop]
   case h_5 n e hu =>
    simp only [part, isAgg, mkC, isStruct, hu, Sem.run_bind, run_underlying hu, Result.andThen_ok, if_true, Sem.run_pure, sz]
    congr 2
    rw [hs, ← hlen]
    apply Array.ext'
    simp [List.extract_eq_take_drop]
   case h_6 => cases hl
   all_goals
    rename_i hu
    cases hl
    obtain ⟨x, rfl⟩ : ∃ x, xs = [x] := List.length_eq_one_iff.1 (by simpa using hlen)
    simp [part, isAgg, mkC, isStruct, hu, Sem.run_bind, run_underlying hu, Result.andThen_ok]
theorem flatFs_split {go : TypeId → Option (List K)} {f : Field} {fs : List Field} {off : Nat} {l : List K} (h : flatFs P go (f :: fs) off = some l) :
  f.name ≠ "_" ∧ f.offset = off ∧ ∃ l₁ l₂ i, go f.type = some l₁ ∧ P.info? f.type = some i ∧ i.size = l₁.length ∧ flatFs P go fs (off + l₁.length) = some l₂ ∧ l = l₁ ++ l₂ := by
 simp only [flatFs] at h
 split at h
 ·rename_i hc
  split at h
  ·rename_i l₁ i h1 h2
   split at h
   ·rename_i hs
    split at h
    ·rename_i m hm
     cases h
     exact ⟨hc.1, hc.2, l₁, m, i, h1, h2, hs, hm, rfl⟩
    ·cases h
   ·cases h
  ·cases h
 ·cases h
theorem flat_eq : (d : Nat) → (t : TypeId) → (l : List K) → flatK P d t = some l → ∀ (D : Nat), d ≤ D → ∀ (xs ys : List Cel), xs.map Cel.kind = l → ys.map Cel.kind = l → ∀ w, (Op.equalIn D t (mkC P t xs) (mkC P t ys)).run P w = .ok (eqL xs ys) w := by
 intro d
 induction d with
 | zero => intro t l h; cases h
 | succ d ih =>
   intro t l hl D hD xs ys hx hy w
   obtain ⟨D, rfl⟩ : ∃ D', D = D' + 1 := ⟨D - 1, by omega⟩
   have hl0 := hl
   simp only [flatK] at hl
   split at hl
   case h_4 fs hu =>
    split at hl
    ·cases hl
    ·rename_i hst
     have hfs : P.fieldsOf t = fs := by simp [Program.fieldsOf, hu]
     have e : ∀ zs, mkC P t zs = .agg (zs.map Cel.val).toArray := fun zs => by simp [mkC, isStruct, hu]
     rw [e, e, run_equalIn_struct w D t _ _ (by rw [hfs]; exact hu) (by simpa using hst), hfs]
     have key : ∀ (fs : List Field) (pre pre' xs ys : List Cel) (l : List K), flatFs P (flatK P d) fs pre.length = some l → pre.length = pre'.length → xs.map Cel.kind = l → ys.map Cel.kind = l →
       (Op.eqFields D ((pre ++ xs).map Cel.val).toArray ((pre' ++ ys).map Cel.val).toArray fs).run P w = .ok (eqL xs ys) w := by
      intro fs
      induction fs with
      | nil =>
        intro pre pre' xs ys l h1 h2 h3 h4
        simp only [flatFs, Option.some.injEq] at h1
        subst h1
        have : xs = [] := by simpa using h3
        subst this
        simp [Op.eqFields, eqL]
      | cons f fs ihf =>
        intro pre pre' xs ys l h1 h2 h3 h4
        obtain ⟨g1, g2, l₁, l₂, i, g3, g4, g5, g6, rfl⟩ := flatFs_split h1
        obtain ⟨x1, x2, rfl, hx1, hx2⟩ := List.map_eq_append_iff.1 h3
        obtain ⟨y1, y2, rfl, hy1, hy2⟩ := List.map_eq_append_iff.1 h4
        have lx : x1.length = l₁.length := by rw [← hx1]; simp
        have ly : y1.length = l₁.length := by rw [← hy1]; simp
        have p1 := part_mk (go := flatK P d) g4 g5 g3 pre x1 x2 hx1 w
        have p2 := part_mk (go := flatK P d) g4 g5 g3 pre' y1 y2 hy1 w
        rw [← h2] at p2
        simp only [Op.eqFields, g1, ne_eq, not_false_eq_true, if_true, Sem.run_bind]
        rw [g2, ← List.append_assoc, ← List.append_assoc, p1, Result.andThen_ok, p2, Result.andThen_ok, ih f.type l₁ g3 D (by omega) x1 y1 hx1 hy1 w, Result.andThen_ok]
        rw [eqL_append (by omega)]
        cases he : eqL x1 y1 with
        | false => simp
        | true =>
          simp only [Bool.not_true, Bool.false_eq_true, if_false, Bool.true_and]
          exact ihf (pre ++ x1) (pre' ++ y1) x2 y2 l₂ (by rw [List.length_append, lx]; exact g6) (by simp; omega) hx2 hy2
     have := key fs.toList [] [] xs ys l hl rfl hx hy
     simpa using this
   case h_5 n el hu =>
    split at hl
    ·rename_i le i g3 g4
     split at hl
     ·rename_i g5
      cases hl
      have e : ∀ zs, mkC P t zs = .agg (zs.map Cel.val).toArray := fun zs => by simp [mkC, isStruct, hu]
      rw [e, e, run_equalIn_array w D _ _ hu g4]
      have hc : P.cellsOf el = le.length := by simp only [Program.cellsOf, g4, Option.map_some, Option.getD_some]; exact g5
      have key : ∀ (m j : Nat) (pre pre' xs ys : List Cel), pre.length = j * le.length → pre'.length = j * le.length → xs.map Cel.kind = (List.replicate m le).flatten → ys.map Cel.kind = (List.replicate m le).flatten →
        (Op.eqItems D el (P.cellsOf el) ((pre ++ xs).map Cel.val).toArray ((pre' ++ ys).map Cel.val).toArray (List.range' j m)).run P w = .ok (eqL xs ys) w := by
       intro m
       induction m with
       | zero =>
         intro j pre pre' xs ys h1 h2 h3 h4
         have : xs = [] := by simpa using h3
         subst this
         simp [Op.eqItems, eqL]
       | succ m ihm =>
         intro j pre pre' xs ys h1 h2 h3 h4
         rw [List.replicate_succ, List.flatten_cons] at h3 h4
         obtain ⟨x1, x2, rfl, hx1, hx2⟩ := List.map_eq_append_iff.1 h3
         obtain ⟨y1, y2, rfl, hy1, hy2⟩ := List.map_eq_append_iff.1 h4
         have lx : x1.length = le.length := by rw [← hx1]; simp
         have ly : y1.length = le.length := by rw [← hy1]; simp
         have p1 := part_mk (go := flatK P d) g4 g5 g3 pre x1 x2 hx1 w
         have p2 := part_mk (go := flatK P d) g4 g5 g3 pre' y1 y2 hy1 w
         rw [h1] at p1; rw [h2] at p2
         rw [List.range'_succ]
         simp only [Op.eqItems, Sem.run_bind]
         rw [hc, ← List.append_assoc, ← List.append_assoc, p1, Result.andThen_ok, p2, Result.andThen_ok, ih el le g3 D (by omega) x1 y1 hx1 hy1 w, Result.andThen_ok]
         rw [eqL_append (by omega)]
         cases he : eqL x1 y1 with
         | false => simp
         | true =>
           simp only [Bool.not_true, Bool.false_eq_true, if_false, Bool.true_and]
           rw [← hc]
           exact ihm (j + 1) (pre ++ x1) (pre' ++ y1) x2 y2 (by rw [List.length_append, lx, h1, Nat.succ_mul]) (by rw [List.length_append, ly, h2, Nat.succ_mul]) hx2 hy2
      have := key n 0 [] [] xs ys (by simp) (by simp) hx hy
      rw [List.range_eq_range']
      simpa using this
     ·cases hl
    ·cases hl
   case h_6 => cases hl
   all_goals
    rename_i hu
    cases hl
    obtain ⟨x, rfl⟩ : ∃ x, xs = [x] := List.length_eq_one_iff.1 (by have := congrArg List.length hx; simpa using this)
    obtain ⟨y, rfl⟩ : ∃ y, ys = [y] := List.length_eq_one_iff.1 (by have := congrArg List.length hy; simpa using this)
    cases x <;> simp [Cel.kind] at hx <;> cases y <;> simp [Cel.kind] at hy
    simp only [mkC, isStruct, hu, Cel.val, eqL, Cel.eq, List.map_cons, List.map_nil, List.headD_cons, Bool.false_eq_true, if_false, Bool.and_true]
    first
     | (subst hx; subst hy; rw [run_equalIn_int w D t _ _ _ _ hu]; simp [beqInt]; rfl)
     | (subst hx; subst hy; rw [run_equalIn_int w D t _ _ _ _ hu]; rw [Bool.eq_iff_iff.2]; simp [beqInt])
     | (rw [run_equalIn_bool' w D t _ _ hu]; rfl)
     | (rw [run_equalIn_string w D t _ _ hu]; simp [beqStr])
theorem flat_check : (d : Nat) → (t : TypeId) → (l : List K) → flatK P d t = some l → ∀ (D : Nat), d ≤ D → ∀ (xs : List Cel), xs.map Cel.kind = l → ∀ e w, (Instr.checkKey e D t (mkC P t xs)).run P w = .ok () w := by
 intro d
 induction d with
 | zero => intro t l h; cases h
 | succ d ih =>
   intro t l hl D hD xs hx e w
   obtain ⟨D, rfl⟩ : ∃ D', D = D' + 1 := ⟨D - 1, by omega⟩
   simp only [flatK] at hl
   split at hl
   case h_4 fs hu =>
    split at hl
    ·cases hl
    ·have em : ∀ zs, mkC P t zs = .agg (zs.map Cel.val).toArray := fun zs => by simp [mkC, isStruct, hu]
     rw [em]
     simp only [Instr.checkKey, Sem.run_bind, run_underlying hu, Result.andThen_ok]
     rw [← Array.forIn_toList]
     have key : ∀ (fs : List Field) (pre xs : List Cel) (l : List K), flatFs P (flatK P d) fs pre.length = some l → xs.map Cel.kind = l →
       (forIn fs PUnit.unit fun f (_ : PUnit) => do
         if f.name ≠ "_" then
          Instr.checkKey e D f.type (← part f.type ((pre ++ xs).map Cel.val).toArray f.offset)
          pure (ForInStep.yield PUnit.unit)
         else pure (ForInStep.yield PUnit.unit) : Sem PUnit).run P w = .ok PUnit.unit w := by
      intro fs
      induction fs with
      | nil => intro pre xs l _ _; simp
      | cons f fs ihf =>
        intro pre xs l h1 h3
        obtain ⟨g1, g2, l₁, l₂, i, g3, g4, g5, g6, rfl⟩ := flatFs_split h1
        obtain ⟨x1, x2, rfl, hx1, hx2⟩ := List.map_eq_append_iff.1 h3
        have lx : x1.length = l₁.length := by rw [← hx1]; simp
        have p1 := part_mk (go := flatK P d) g4 g5 g3 pre x1 x2 hx1 w
        simp only [List.forIn_cons, Sem.run_bind, g1, ne_eq, not_false_eq_true, if_true]
        rw [g2, ← List.append_assoc, p1]
        simp only [Result.andThen_ok, ih f.type l₁ g3 D (by omega) x1 hx1 e w, Sem.run_pure]
        exact ihf (pre ++ x1) x2 l₂ (by rw [List.length_append, lx]; exact g6) hx2
     have := key fs.toList [] xs l hl hx
     simp only [List.nil_append] at this
     rw [this]; simp
   case h_5 n el hu =>
    split at hl
    ·rename_i le i g3 g4
     split at hl
     ·rename_i g5
      cases hl
      have em : ∀ zs, mkC P t zs = .agg (zs.map Cel.val).toArray := fun zs => by simp [mkC, isStruct, hu]
      rw [em]
      have sz : ∀ w, (Go.sizeOf el).run P w = .ok le.length w := fun w => by simp [Go.sizeOf, typeInfo, g4, g5]
      simp only [Instr.checkKey, Sem.run_bind, run_underlying hu, Result.andThen_ok]
      simp only [Std.Legacy.Range.forIn_eq_forIn_range', Std.Legacy.Range.size, Nat.sub_zero, Nat.add_one_sub_one, Nat.div_one]
      have key : ∀ (m j : Nat) (pre xs : List Cel), pre.length = j * le.length → xs.map Cel.kind = (List.replicate m le).flatten →
        (forIn (List.range' j m) PUnit.unit fun i (_ : PUnit) => do
          Instr.checkKey e D el (← part el ((pre ++ xs).map Cel.val).toArray (i * (← Go.sizeOf el)))
          pure (ForInStep.yield PUnit.unit) : Sem PUnit).run P w = .ok PUnit.unit w := by
       intro m
       induction m with
       | zero => intro j pre xs _ _; simp
       | succ m ihm =>
         intro j pre xs h1 h3
         rw [List.replicate_succ, List.flatten_cons] at h3
         obtain ⟨x1, x2, rfl, hx1, hx2⟩ := List.map_eq_append_iff.1 h3
         have lx : x1.length = le.length := by rw [← hx1]; simp
         have p1 := part_mk (go := flatK P d) g4 g5 g3 pre x1 x2 hx1 w
         rw [h1] at p1
         rw [List.range'_succ]
         simp only [List.forIn_cons, Sem.run_bind, sz, Result.andThen_ok]
         rw [← List.append_assoc, p1]
         simp only [Result.andThen_ok, ih el le g3 D (by omega) x1 hx1 e w, Sem.run_pure]
         exact ihm (j + 1) (pre ++ x1) x2 (by rw [List.length_append, lx, h1, Nat.succ_mul]) hx2
      have := key n 0 [] xs (by simp) hx
      simp only [List.nil_append] at this
      rw [this]; simp
     ·cases hl
    ·cases hl
   case h_6 => cases hl
   all_goals
    rename_i hu
    cases hl
    obtain ⟨x, rfl⟩ : ∃ x, xs = [x] := List.length_eq_one_iff.1 (by have := congrArg List.length hx; simpa using this)
    cases x <;> simp [Cel.kind] at hx
    simp [mkC, isStruct, hu, Cel.val, Instr.checkKey, run_underlying hu]
def Ks.toList : Ks → List K
 | .nil => []
 | .cons k r => k :: r.toList
theorem K.cel {w : World} {A : ASet} {k : K} (hk : k.cmp = true) {x : k.Ty} {v : Value} (hr : K.Rep w A k x v) : ∃ c : Cel, v = c.val ∧ c.kind = k := by
 cases k with
 | int k => simp only [K.Rep] at hr; exact ⟨.ci k x, hr, rfl⟩
 | bool => simp only [K.Rep] at hr; exact ⟨.cb x, hr, rfl⟩
 | str => simp only [K.Rep] at hr; exact ⟨.cs x, hr, rfl⟩
 | sl r => cases hk
theorem K.cel_eq {w : World} {A : ASet} {k : K} {x y : k.Ty} {c d : Cel} (hc : c.kind = k) (hd : d.kind = k) (hx : K.Rep w A k x c.val) (hy : K.Rep w A k y d.val) : k.beq x y = c.eq d := by
 cases c <;> cases d <;> simp only [Cel.kind] at hc hd
 all_goals (subst hc; first | cases hd | skip)
 ·simp only [K.Rep, Cel.val] at hx hy
  injection hx with _ hx
  injection hy with _ hy
  simp only [K.beq, Cel.eq]
  rw [hx, hy]
 ·simp only [K.Rep, Cel.val] at hx hy
  injection hx with hx
  injection hy with hy
  simp only [K.beq, Cel.eq]
  rw [hx, hy]
 ·simp only [K.Rep, Cel.val, Value.string.injEq, ByteArray.mk.injEq] at hx hy
  have hx := congrArg Array.toList hx
  have hy := congrArg Array.toList hy
  simp only at hx hy
  rw [hx, hy]; rfl
theorem Ks.cels {w : World} {A : ASet} : {r : Ks} → r.cmp = true → {x : r.Ty} → {l : List Value} → RowVals w A r x l → ∃ cs : List Cel, l = cs.map Cel.val ∧ cs.map Cel.kind = r.toList
 | .nil, _, x, l, hr => by simp only [RowVals] at hr; subst hr; exact ⟨[], rfl, rfl⟩
 | .cons k .nil, hc, x, l, hr => by
   simp only [Ks.cmp, Bool.and_eq_true] at hc
   simp only [RowVals] at hr
   obtain ⟨v, rfl, hv⟩ := hr
   obtain ⟨c, rfl, h2⟩ := K.cel hc.1 hv
   exact ⟨[c], rfl, by simp [Ks.toList, h2]⟩
 | .cons k (.cons k' r), hc, x, l, hr => by
   rw [Ks.cmp, Bool.and_eq_true] at hc
   simp only [RowVals] at hr
   obtain ⟨v, vs, rfl, hv, hvs⟩ := hr
   obtain ⟨c, rfl, h2⟩ := K.cel hc.1 hv
   obtain ⟨cs, rfl, h3⟩ := Ks.cels hc.2 hvs
   exact ⟨c :: cs, rfl, by rw [List.map_cons, h2, h3]; rfl⟩
theorem Ks.cels_eq {w : World} {A : ASet} : {r : Ks} → {x y : r.Ty} → {cs ds : List Cel} → cs.map Cel.kind = r.toList → ds.map Cel.kind = r.toList → RowVals w A r x (cs.map Cel.val) → RowVals w A r y (ds.map Cel.val) → r.beq x y = eqL cs ds
 | .nil, x, y, cs, ds, hc, hd, hx, hy => by
   simp only [Ks.toList, List.map_eq_nil_iff] at hc hd
   subst hc; subst hd; rfl
 | .cons k .nil, x, y, cs, ds, hc, hd, hx, hy => by
   simp only [RowVals] at hx hy
   obtain ⟨v, e1, hv⟩ := hx
   obtain ⟨u, e2, hu⟩ := hy
   match cs, ds, e1, e2, hc, hd with
   | [c], [d], e1, e2, hc, hd =>
     simp only [List.map_cons, List.map_nil, List.cons.injEq, and_true, Ks.toList] at e1 e2 hc hd
     subst e1; subst e2
     simp only [Ks.beq, eqL, Bool.and_true]
     exact K.cel_eq hc hd hv hu
 | .cons k (.cons k' r), x, y, cs, ds, hc, hd, hx, hy => by
   simp only [RowVals] at hx hy
   obtain ⟨v, vs, e1, hv, hvs⟩ := hx
   obtain ⟨u, us, e2, hu, hus⟩ := hy
   match cs, ds, e1, e2, hc, hd with
   | c :: cs, d :: ds, e1, e2, hc, hd =>
     simp only [List.map_cons, List.cons.injEq] at e1 e2
     obtain ⟨e1, e1'⟩ := e1
     obtain ⟨e2, e2'⟩ := e2
     subst e1; subst e2; subst e1'; subst e2'
     have hc' : c.kind = k ∧ cs.map Cel.kind = (Ks.cons k' r).toList := by simpa [Ks.toList] using hc
     have hd' : d.kind = k ∧ ds.map Cel.kind = (Ks.cons k' r).toList := by simpa [Ks.toList] using hd
     simp only [Ks.beq, eqL]
     rw [K.cel_eq hc'.1 hd'.1 hv hu, Ks.cels_eq hc'.2 hd'.2 hvs hus]
instance : DecidableEq K := fun a b => match h : K.eqp a b with
 | some ⟨e⟩ => .isTrue e
 | none => .isFalse fun e => by
   subst e
   have : ∀ a : K, K.eqp a a ≠ none := fun a => K.rec (motive_1 := fun a => K.eqp a a ≠ none) (motive_2 := fun r => Ks.eqp r r ≠ none)
    (fun k => by simp [K.eqp]) (by simp [K.eqp]) (by simp [K.eqp]) (fun r ih => by
      cases h2 : Ks.eqp r r with
      | none => exact (ih h2).elim
      | some q => simp [K.eqp, h2]) (by simp [Ks.eqp]) (fun k r ih ih' => by
      cases h1 : K.eqp k k with
      | none => exact (ih h1).elim
      | some p =>
        cases h2 : Ks.eqp r r with
        | none => exact (ih' h2).elim
        | some q => simp [Ks.eqp, h1, h2]) a
   exact this a h
def kindsEq (a b : List K) : Bool := decide (a = b)
def eqB (P : Program) (t : TypeId) (row : Ks) : Bool := row.cmp && isStruct P t && !P.eqGuardType P.depth t && (match flatK P 20 t with
 | some l => kindsEq l row.toList
 | none => false)
def keyB (P : Program) (t : TypeId) (row : Ks) (ka : Bool) : Bool := row.cmp && (isStruct P t == ka) && (match flatK P 20 t with
 | some l => kindsEq l row.toList
 | none => false)
theorem eqB_ok {t : TypeId} {row : Ks} (h : eqB P t row = true) : EqOk P t row := by
 unfold eqB at h
 simp only [Bool.and_eq_true, Bool.not_eq_true'] at h
 obtain ⟨⟨⟨h1, h2⟩, h3⟩, h4⟩ := h
 refine ⟨fun w A k k' xs ys hx hy => ?_, h3⟩
 split at h4
 ·rename_i l hl
  have h4 : l = row.toList := of_decide_eq_true h4
  obtain ⟨cs, e1, g1⟩ := Ks.cels h1 hx
  obtain ⟨ds, e2, g2⟩ := Ks.cels h1 hy
  rw [e1] at hx; rw [e2] at hy
  have := flat_eq 20 t l hl 10000 (by omega) cs ds (by rw [g1, h4]) (by rw [g2, h4]) w
  rw [Ks.cels_eq g1 g2 hx hy, ← this]
  simp only [mkC, h2, if_true, Op.equal, Op.maxDepth]
  rw [← e1, ← e2]
 ·cases h4
theorem keyB_ok {t : TypeId} {row : Ks} {ka : Bool} (h : keyB P t row ka = true) : KeyOk P t row ka := by
 unfold keyB at h
 simp only [Bool.and_eq_true, beq_iff_eq] at h
 obtain ⟨⟨h1, h2⟩, h4⟩ := h
 split at h4
 ·rename_i l hl
  have h4 : l = row.toList := of_decide_eq_true h4
  have cell : ∀ (w : World) (A : ASet) (k : row.Ty) (v : Value), RowVal w A ka row k v → ∃ cs : List Cel, v = mkC P t cs ∧ cs.map Cel.kind = row.toList ∧ RowVals w A row k (cs.map Cel.val) := by
   intro w A k v hv
   unfold RowVal at hv
   split at hv
   ·rename_i hka
    obtain ⟨cs, rfl, hr⟩ := hv
    obtain ⟨xs, e, g⟩ := Ks.cels h1 hr
    refine ⟨xs, ?_, g, by rw [← e]; exact hr⟩
    unfold mkC
    rw [h2, if_pos hka, ← e]
   ·rename_i hka
    obtain ⟨hn, hr⟩ := hv
    obtain ⟨xs, e, g⟩ := Ks.cels h1 hr
    refine ⟨xs, ?_, g, by rw [← e]; exact hr⟩
    unfold mkC
    rw [h2, if_neg hka, ← e]
    rfl
  refine ⟨?_, fun w A k v e hv => ?_, fun w A k k' v v' hv hv' => ?_, fun w A d k k' v v' hd hv hv' => ?_, fun w A k k' v v' hv hv' he => ?_⟩
  ·cases hu : P.underlying t with
   | some d => exact ⟨d, rfl⟩
   | none => simp [flatK, hu] at hl
  ·obtain ⟨cs, rfl, g, _⟩ := cell w A k v hv
   exact flat_check 20 t l hl 10000 (by omega) cs (by rw [g, h4]) e w
  ·obtain ⟨cs, rfl, g, r1⟩ := cell w A k v hv
   obtain ⟨ds, rfl, g', r2⟩ := cell w A k' v' hv'
   rw [Ks.cels_eq g g' r1 r2]
   exact flat_eq 20 t l hl 10000 (by omega) cs ds (by rw [g, h4]) (by rw [g', h4]) w
  ·obtain ⟨cs, rfl, g, r1⟩ := cell w A k v hv
   obtain ⟨ds, rfl, g', r2⟩ := cell w A k' v' hv'
   rw [Ks.cels_eq g g' r1 r2]
   unfold mkC isStruct
   rw [hd]
   cases d <;> first | exact .inl rfl | skip
   all_goals
    simp only [flatK, hd, Option.some.injEq] at hl
    subst hl
    rw [← h4] at g g'
    obtain ⟨x, rfl⟩ : ∃ x, cs = [x] := List.length_eq_one_iff.1 (by have := congrArg List.length g; simpa using this)
    obtain ⟨y, rfl⟩ : ∃ y, ds = [y] := List.length_eq_one_iff.1 (by have := congrArg List.length g'; simpa using this)
    right
    cases x <;> simp [Cel.kind] at g <;> cases y <;> simp [Cel.kind] at g'
    simp [Cel.val, eqL, Cel.eq, beqInt, beqBool, beqStr, Instr.sameNow, ba_beq, g, g']
    try rfl
  ·obtain ⟨cs, rfl, g, r1⟩ := cell w A k v hv
   obtain ⟨ds, rfl, g', r2⟩ := cell w A k' v' hv'
   rw [Ks.cels_eq g g' r1 r2] at he
   have bits : ∀ (n : Nat) (x y : Cel), x.kind = y.kind → x.eq y = true → Instr.sameBits n y.val x.val = true := by
    intro n x y hk he
    cases x <;> cases y <;> simp [Cel.kind] at hk <;> simp [Cel.eq, beqInt, beqBool, beqStr] at he <;> cases n <;> simp [Cel.val, Instr.sameBits, ba_beq, he, hk]
   have all : ∀ (cs ds : List Cel), cs.map Cel.kind = ds.map Cel.kind → eqL cs ds = true → ∀ n, ((ds.map Cel.val).zip (cs.map Cel.val)).all (fun (x, y) => Instr.sameBits n x y) = true := by
    intro cs
    induction cs with
    | nil => intro ds _ _ n; cases ds <;> simp
    | cons c cs ih =>
      intro ds hk he n
      cases ds with
      | nil => simp
      | cons d ds =>
        simp only [List.map_cons, List.cons.injEq] at hk
        simp only [eqL, Bool.and_eq_true] at he
        simp only [List.map_cons, List.zip_cons_cons, List.all_cons, Bool.and_eq_true]
        exact ⟨bits n c d hk.1 he.1, ih ds hk.2 he.2 n⟩
   have hkk : cs.map Cel.kind = ds.map Cel.kind := by rw [g, g']
   unfold mkC
   split
   ·have hlen : cs.length = ds.length := by have := congrArg List.length hkk; simpa using this
    simp only [Instr.sameBits, List.size_toArray, List.length_map, Bool.and_eq_true, beq_iff_eq]
    exact ⟨hlen.symm, by simpa using all cs ds hkk he 9999⟩
   ·rename_i hns
    have : cs.length = 1 := by
     rw [h2] at hns
     unfold RowVal at hv
     rw [if_neg hns] at hv
     have e1 := RowVals.length hv.2
     have e2 := RowVals.length r1
     simp at e1 e2
     omega
    obtain ⟨x, rfl⟩ := List.length_eq_one_iff.1 this
    obtain ⟨y, rfl⟩ : ∃ y, ds = [y] := List.length_eq_one_iff.1 (by have := congrArg List.length hkk; simpa using this.symm)
    simp only [List.map_cons, List.map_nil, List.headD_cons]
    simp only [List.map_cons, List.map_nil, List.cons.injEq, and_true] at hkk
    simp only [eqL, Bool.and_true] at he
    exact bits 10000 x y hkk he
 ·cases h4
end
end Vm
namespace Vm
open Go
def tyB (P : Program) (p : Nat × TI) : Bool := tyOk P p.1 p.2 && (!p.2.eqs || eqB P p.1 p.2.row) && (match p.2.tk with
 | .map => match P.underlying p.1 with
   | some (.map kt _) => keyB P kt p.2.key p.2.ka
   | _ => false
 | _ => true)
theorem envOk_of {P : Program} {E : Env} {tys : List (Nat × TI)} (h : tys.all (tyB P) = true) (hτ : E.τ = look tys) : EnvOk P E := by
 have at_ : ∀ t ti, E.τ t = some ti → tyB P (t, ti) = true := fun t ti ht => by
  rw [hτ] at ht
  exact List.all_eq_true.1 h _ (look_mem ht)
 refine ⟨fun t ti ht => ?_, fun t ti ht he => ?_, fun t ti kt et ht hk hu => ?_⟩
 ·have := at_ t ti ht
  simp only [tyB, Bool.and_eq_true] at this
  exact this.1.1
 ·have := at_ t ti ht
  simp only [tyB, Bool.and_eq_true, he, Bool.not_true, Bool.false_or] at this
  exact eqB_ok this.1.2
 ·have := at_ t ti ht
  simp only [tyB, Bool.and_eq_true, hk, hu] at this
  exact keyB_ok this.2
theorem rfsOk_of {rs : List (Nat × RF)} {g : Nat → Option (Sigma fun r : Ks => List r.Ty)} {w : Nat → Option Value} (h : rs.all (fun p => rfB p.2) = true) : RfsOk ⟨g, look rs, w⟩ := fun y q hq => List.all_eq_true.1 h _ (look_mem hq)
def FnsAll (P : Program) : Fns → Prop
 | [] => True
 | p :: l => (P.funcs[p.1]? = some p.2.1 ∧ p.2.1.body = some p.2.2 ∧ fnB p.2.1 p.2.2 0 = true ∧ p.1 < 1000000000) ∧ FnsAll P l
theorem fnsOk_of {P : Program} {fns : Fns} (h : FnsAll P fns) : FnsOk P fns := ⟨fun f fc hf => by
 induction fns with
 | nil => cases hf
 | cons p l ih =>
   obtain ⟨i, q⟩ := p
   simp only [look] at hf
   split at hf
   ·rename_i e; subst e; cases hf; exact h.1
   ·exact ih h.2 hf⟩
theorem ready_of {P : Program} {fns : Fns} {tys : List (Nat × TI)} {gl : Gl} {mv : Nat → Bool} {l : List (Entry P gl)} {F : Nat} (hP : P.follows .mixedOrders = true) (hf : FnsAll P fns) (ht : tys.all (tyB P) = true) (hr : RfsOk gl) (n : Nat) (hob : obB mv l = true := by kernel_rfl) :
  Ready P (interp fns (look tys) gl mv (tabOf l) F n) :=
 interp_ready hP (fnsOk_of hf) hr (tab_ok l hob) (fun n => envOk_of ht (by cases n <;> rfl)) n
end Vm
namespace Vm
open Go
theorem contract_run {P : Program} {E : Env} {gl : Gl} (hP : P.follows .mixedOrders = true) (hE : Ready P E) (hgl : E.gl = gl) {f : Nat} {fn : Func} {c : Code} (hf : P.funcs[f]? = some fn) (hb : fn.body = some c) {args args' : List V} (ha : args' = args) (hr : rootsN args = 0)
  {v : V} {os' : List Ob} (hB : fnB fn c args.length = true) {cuts : Cuts} {F n : Nat} {own : Bool}
  (hv : vrun E cuts 0 F (vend E 0 fn.results.toList own fun v os => some (v, os)) n [.code c] (start args []) = some (v, os')) (hlt : f < 1000000000 := by decide) (hrf : RfOk gl.rf fn.ntmps cuts c := by exact rfOk_no (by kernel_rfl)) : Contract P gl f args' [] v os' := by
 subst ha
 rw [← hgl]
 exact contract_of hP hE hf hb hB hlt (by rw [hgl]; exact hrf) (by rw [hr]; exact hv) (by rw [hr]; exact Nat.zero_le _)
end Vm
namespace Vm
open Go
theorem nil_sl {w : World} {A : ASet} {η : Nat → Option Nat} {h : Nat → Option Ob} {r : Ks} {c : Value} (hr : V.Rep w A η h .nilsl c) : V.Rep w A η h (.sl r []) c := by
 simp only [V.Rep, K.Rep] at hr ⊢
 exact ⟨none, 0, hr, Nat.le_refl _, fun _ => rfl, fun ad e _ => (by cases e)⟩
end Vm
namespace Vm
open Go
theorem idx_nat {α : Type} (xs : List α) (i : Nat) : idx xs (i : Int) = xs[i]? := by simp [idx]
theorem wrap_small {k : IntKind} {n : Int} (h₁ : k.min ≤ n) (h₂ : n ≤ k.max) : k.wrap n = n := by
 cases k <;> simp only [IntKind.min, IntKind.max, IntKind.signed, IntKind.bits, IntKind.wrap] at * <;> simp at * <;> omega
theorem wrap_i64 {n : Int} (h₁ : -9223372036854775808 ≤ n) (h₂ : n ≤ 9223372036854775807) : IntKind.wrap .i64 n = n :=
 wrap_small (by simp [IntKind.min, IntKind.signed, IntKind.bits]; omega) (by simp [IntKind.max, IntKind.signed, IntKind.bits]; omega)
theorem wrap_succ {i : Nat} (h : i < 4611686018427387904) : IntKind.wrap .i64 ((i : Int) + 1) = ((i + 1 : Nat) : Int) := by
 rw [wrap_i64 (by omega) (by omega)]; rfl
theorem bif_pos {α : Type} {c : Bool} {x y : α} (h : c = true) : (bif c then x else y) = x := by rw [h]; rfl
theorem bif_neg {α : Type} {c : Bool} {x y : α} (h : c = false) : (bif c then x else y) = y := by rw [h]; rfl
end Vm
namespace Vm
end Vm
namespace Vm
open Go
def ksOf : List K → Ks
 | [] => .nil
 | k :: l => .cons k (ksOf l)
theorem ksOf_len : (l : List K) → (ksOf l).len = l.length
 | [] => rfl
 | k :: l => by simp only [ksOf, Ks.len, ksOf_len l, List.length_cons]
mutual
def K.okD : (k : K) → k.Ty → Prop
 | .int k, n => (Lit.int k n).wf = true
 | .bool, _ => True
 | .str, s => List.length s ≤ maxLen
 | .sl r, xs => List.length xs ≤ maxLen ∧ ∀ (i : Nat) (x : r.Ty), getElem? (coll := List r.Ty) xs i = some x → Ks.okD r x
def Ks.okD : (r : Ks) → r.Ty → Prop
 | .nil, _ => True
 | .cons k .nil, x => K.okD k x
 | .cons k (.cons k' r), x => K.okD k x.1 ∧ Ks.okD (.cons k' r) x.2
end
def rowFs (P : Program) (go : TypeId → Option (List K)) : List Field → Nat → Option (List K)
 | [], _ => some []
 | f :: fs, off => if f.offset = off then match go f.type with
     | some l => if P.cellsOf f.type = l.length then match rowFs P go fs (off + l.length) with
        | some m => some (l ++ m)
        | none => none
       else none
     | none => none
   else none
def rowK (P : Program) : Nat → TypeId → Option (List K)
 | 0, _ => none
 | d + 1, t => match P.underlying t with
   | some (.int k) => some [.int k]
   | some .bool => some [.bool]
   | some .string => some [.str]
   | some (.slice e) => match rowK P d e with
     | some l => if P.cellsOf e = l.length ∧ 0 < l.length then some [.sl (ksOf l)] else none
     | none => none
   | some (.struct fs) => match rowFs P (rowK P d) fs.toList 0 with
     | some l => if P.cellsOf t = l.length then some l else none
     | none => none
   | _ => none
def Kinds : List K → List V → Prop
 | [], vs => vs = []
 | k :: l, vs => ∃ (x : k.Ty) (r : List V), vs = k.leaf x :: r ∧ K.okD k x ∧ Kinds l r
theorem Kinds.append : {l : List K} → {vs : List V} → {m : List K} → {us : List V} → Kinds l vs → Kinds m us → Kinds (l ++ m) (vs ++ us)
 | [], _, m, us, h1, h2 => by simp only [Kinds] at h1; subst h1; exact h2
 | k :: l, _, m, us, h1, h2 => by
   simp only [Kinds] at h1
   obtain ⟨x, r, rfl, h3, h4⟩ := h1
   exact ⟨x, r ++ us, rfl, h3, h4.append h2⟩
theorem Kinds.cells : {l : List K} → {vs : List V} → Kinds l vs → ∃ x : (ksOf l).Ty, (ksOf l).cells x = vs ∧ Ks.okD (ksOf l) x
 | [], _, h => by simp only [Kinds] at h; subst h; exact ⟨(), rfl, by simp only [ksOf, Ks.okD]⟩
 | [k], _, h => by
   simp only [Kinds] at h
   obtain ⟨x, r, rfl, h3, rfl⟩ := h
   exact ⟨x, rfl, by simp only [ksOf, Ks.okD]; exact h3⟩
 | k :: k' :: l, _, h => by
   rw [Kinds] at h
   obtain ⟨x, r, rfl, h3, h4⟩ := h
   obtain ⟨y, h5, h6⟩ := h4.cells
   refine ⟨((x, y) : k.Ty × (ksOf (k' :: l)).Ty), ?_, ?_⟩
   ·show k.leaf x :: (ksOf (k' :: l)).cells y = _
    rw [h5]
   ·show K.okD k x ∧ Ks.okD (ksOf (k' :: l)) y
    exact ⟨h3, h6⟩
section
variable {H : Type} {enc : TypeId × Value → H} {P : Program} {w : World} {held : Bool}
abbrev allOld (w : World) : ASet := fun b => b < w.heap.size
theorem cells_at {a : Addr} {n : Nat} {cs : List Value} (h : w.cells? 0 a n = some cs) : cs.length = n ∧ ∀ (j : Nat) v, cs[j]? = some v → w.cell? (a.add j) = some v := by
 simp only [World.cells?, Nat.zero_le, if_true] at h
 have hl := mapM_some_length h
 simp at hl
 refine ⟨hl, fun j v hj => ?_⟩
 have hjn : j < n := by have := (List.getElem?_eq_some_iff.1 hj).1; omega
 have := mapM_some_get h j j (by simp [hjn])
 rw [hj] at this
 exact this
theorem cell_at {b o : Nat} {v : Value} (h : w.cell? ⟨b, o, none⟩ = some v) : CellAt w b o v := by
 unfold World.cell? at h
 split at h
 ·rename_i c T fz hb
  simp at h
  exact ⟨c, T, fz, hb, h⟩
 ·cases h
theorem cell_spot {a : Addr} {v : Value} (h : w.cell? a = some v) : a.spot = none ∧ a.block < w.heap.size := by
 unfold World.cell? at h
 split at h
 ·rename_i c T fz hb
  split at h
  ·cases h
  ·rename_i hs
   exact ⟨by simpa using hs, (Array.getElem?_eq_some_iff.1 hb).1⟩
 ·cases h
theorem trod_kinds : (d : Nat) → (t : TypeId) → (l : List K) → rowK P d t = some l → ∀ (fuel : Nat) (cs : List Value) (y : DataW H × List MemPlace), DataW.trod enc P w 0 (fun _ => true) held fuel t cs = some y →
  ∃ vs, Kinds l vs ∧ ∀ η h, V.RepL w (allOld w) η h vs cs := by
 intro d
 induction d with
 | zero => intro t l hl; cases hl
 | succ d ih =>
   intro t l hl fuel cs y hy
   simp only [rowK] at hl
   split at hl
   ·rename_i k hu
    cases hl
    obtain ⟨n, rfl, _, hw⟩ := DataW.trod_int hu hy
    exact ⟨[.int k n], ⟨n, [], rfl, by simp only [K.okD]; exact hw, rfl⟩, fun η h => by simp only [V.RepL, V.Rep]; exact ⟨_, [], rfl, rfl, rfl⟩⟩
   ·rename_i hu
    cases hl
    obtain ⟨b, rfl, _⟩ := DataW.trod_bool hu hy
    exact ⟨[.bool b], ⟨b, [], rfl, by simp only [K.okD], rfl⟩, fun η h => by simp only [V.RepL, V.Rep]; exact ⟨_, [], rfl, rfl, rfl⟩⟩
   ·rename_i hu
    cases hl
    obtain ⟨s, rfl, _, hw⟩ := DataW.trod_string hu hy
    obtain ⟨⟨s⟩⟩ := s
    exact ⟨[.str s], ⟨s, [], rfl, by simp only [K.okD]; simpa [ByteArray.size] using hw, rfl⟩, fun η h => by simp only [V.RepL, V.Rep]; exact ⟨_, [], rfl, rfl, rfl⟩⟩
   ·rename_i e hu
    split at hl
    ·rename_i l' hl'
     split at hl
     ·rename_i hsz
      cases hl
      rcases DataW.trod_slice hu hy with ⟨rfl, _⟩ | ⟨a, len, cap, elems, rest, n, _, rfl, _, _, hlc, hcm, hlen, hel, hrest, _⟩
      ·refine ⟨[.sl (ksOf l') []], ⟨[], [], rfl, ?_, rfl⟩, fun η h => ?_⟩
       ·simp only [K.okD]; exact ⟨Nat.zero_le _, fun i x hx => by simp at hx⟩
       ·simp only [V.RepL, V.Rep, K.Rep]
        exact ⟨_, [], rfl, ⟨none, 0, rfl, Nat.le_refl _, fun _ => rfl, fun ad e => (by cases e)⟩, rfl⟩
      ·
       have each : ∀ i, i < len → ∃ x : (ksOf l').Ty, Ks.okD (ksOf l') x ∧ Ks.Rep w (allOld w) (ksOf l') x a.block (a.off + i * l'.length) := by
        intro i hi
        have h1 := hel i hi
        have hlt : i < elems.length := by omega
        rw [List.getElem?_eq_getElem hlt] at h1
        rw [Option.bind_eq_some_iff] at h1
        obtain ⟨cs', h2, h3⟩ := h1
        obtain ⟨h4, h5⟩ := cells_at h2
        obtain ⟨vs, h6, h7⟩ := ih e l' hl' n cs' _ h3
        obtain ⟨x, h8, h9⟩ := h6.cells
        refine ⟨x, h9, RowVals.rep (ksOf l') x cs' _ _ (RowVals.of_repL (η := fun _ => none) (h := fun _ => none) _ x cs' (by rw [h8]; exact h7 _ _)) fun j v hj => ?_⟩
        have h10 := h5 j v hj
        have hsp := (cell_spot h10)
        refine cell_at ?_
        obtain ⟨ab, ao, asp⟩ := a
        rw [hsz.1] at h10
        by_cases hz : i * l'.length = 0
        ·by_cases hj0 : j = 0
         ·subst hj0
          simp only [Addr.add, hz, if_true] at h10 hsp
          simp only [hz, Nat.add_zero]
          have : asp = none := by have := hsp.1; rw [hsz.1] at this; simpa [hz] using this
          subst this
          exact h10
         ·simp only [Addr.add, hz, if_true, if_neg hj0] at h10
          simpa [hz] using h10
        ·by_cases hj0 : j = 0
         ·subst hj0
          simp only [Addr.add, if_neg hz, if_true] at h10
          simpa using h10
         ·simp only [Addr.add, if_neg hz, if_neg hj0] at h10
          exact h10
       have list : ∀ m, m ≤ len → ∃ xs : List (ksOf l').Ty, xs.length = m ∧ ∀ (i : Nat) x, xs[i]? = some x → Ks.okD (ksOf l') x ∧ Ks.Rep w (allOld w) (ksOf l') x a.block (a.off + i * l'.length) := by
        intro m
        induction m with
        | zero => intro _; exact ⟨[], rfl, fun i x hx => by simp at hx⟩
        | succ m ihm =>
          intro hm
          obtain ⟨xs, h1, h2⟩ := ihm (by omega)
          obtain ⟨x, h3⟩ := each m (by omega)
          refine ⟨xs ++ [x], by simp [h1], fun i y hy => ?_⟩
          rw [List.getElem?_append] at hy
          split at hy
          ·exact h2 i y hy
          ·rename_i hi
           have : i = xs.length := by
            have := (List.getElem?_eq_some_iff.1 hy).1
            simp at this; omega
           subst this
           simp at hy
           subst hy
           rw [h1]; exact h3
       obtain ⟨xs, h1, h2⟩ := list len (Nat.le_refl _)
       refine ⟨[.sl (ksOf l') xs], ⟨xs, [], rfl, ?_, rfl⟩, fun η h => ?_⟩
       ·simp only [K.okD]
        exact ⟨by omega, fun i x hx => (h2 i x hx).1⟩
       ·simp only [V.RepL, V.Rep, K.Rep]
        refine ⟨_, [], rfl, ⟨some a, cap, by rw [h1], by omega, fun e => (by cases e), fun ad had hc => ?_⟩, rfl⟩
        cases had
        have first : ∃ v, w.cell? a = some v := by
         have : ∃ cs', w.cells? 0 (a.add (0 * P.cellsOf e)) (P.cellsOf e) = some cs' := by
          by_cases hl0 : 0 < len
          ·have h1 := hel 0 hl0
           rw [List.getElem?_eq_getElem (by omega), Option.bind_eq_some_iff] at h1
           obtain ⟨cs', h2, _⟩ := h1
           exact ⟨cs', h2⟩
          ·obtain ⟨g1, g2⟩ := hrest rfl
           have h1 := g2 0 (by omega)
           have : rest.length = cap - len := g1
           rw [List.getElem?_eq_getElem (by omega), Option.bind_eq_some_iff] at h1
           obtain ⟨cs', h2, _⟩ := h1
           have : len + 0 = 0 := by omega
           rw [this] at h2
           exact ⟨cs', h2⟩
         obtain ⟨cs', h3⟩ := this
         obtain ⟨h4, h5⟩ := cells_at h3
         have hpos : 0 < cs'.length := by omega
         have := h5 0 cs'[0] (by simp [hpos])
         exact ⟨cs'[0], by simpa [Addr.add] using this⟩
        obtain ⟨v, hv⟩ := first
        obtain ⟨g1, g2⟩ := cell_spot hv
        exact ⟨g1, g2, fun i x hx => by rw [ksOf_len]; exact (h2 i x hx).2⟩
     ·cases hl
    ·cases hl
   ·rename_i fs hu
    split at hl
    case h_2 => cases hl
    rename_i l₀ hl₀
    split at hl
    case isFalse => cases hl
    rename_i htot
    cases hl
    have hl := hl₀
    obtain ⟨xs, n, _, _, hcs, hxs, hf⟩ := DataW.trod_struct hu hy
    have key : ∀ (fs' : List Field) (k : Nat) (off : Nat) (l : List K), rowFs P (rowK P d) fs' off = some l → fs.toList.drop k = fs' → ∃ vs, Kinds l vs ∧ ∀ η h, V.RepL w (allOld w) η h vs ((cs.drop off).take l.length) := by
     intro fs'
     induction fs' with
     | nil =>
       intro k off l hl _
       simp only [rowFs, Option.some.injEq] at hl
       subst hl
       exact ⟨[], rfl, fun η h => by simp [V.RepL]⟩
     | cons f fs' ihf =>
       intro k off l hl hk
       simp only [rowFs] at hl
       split at hl
       ·rename_i hoff
        split at hl
        ·rename_i l₁ hl₁
         split at hl
         ·rename_i hsz
          split at hl
          ·rename_i l₂ hl₂
           cases hl
           obtain ⟨g1, g2, g3⟩ := drop_cons hk
           have h1 := hf k f (by simpa using g1)
           have hkx : k < xs.length := by rw [hxs]; simpa using g3
           rw [List.getElem?_eq_getElem hkx] at h1
           obtain ⟨v1, h2, h3⟩ := ih f.type l₁ hl₁ n _ _ h1
           obtain ⟨v2, h4, h5⟩ := ihf (k + 1) _ l₂ hl₂ g2
           refine ⟨v1 ++ v2, h2.append h4, fun η h => ?_⟩
           have e : (cs.drop off).take (l₁ ++ l₂).length = (cs.drop f.offset).take (P.cellsOf f.type) ++ (cs.drop (off + l₁.length)).take l₂.length := by
            rw [hoff, hsz, List.length_append, List.take_add, List.drop_drop]
           rw [e]
           exact (h3 η h).append (h5 η h)
          ·cases hl
         ·cases hl
        ·cases hl
       ·cases hl
    obtain ⟨vs, h1, h2⟩ := key fs.toList 0 0 l hl rfl
    have tot : l.length = cs.length → ∃ vs, Kinds l vs ∧ ∀ η h, V.RepL w (allOld w) η h vs cs := fun e => ⟨vs, h1, fun η h => by
     have := h2 η h
     rwa [List.drop_zero, e, List.take_length] at this⟩
    exact tot (by omega)
   ·cases hl
end
end Vm
namespace Vm
open Go
section
variable {H : Type} {enc : TypeId × Value → H} {P : Program} {w : World} {held : Bool} {sp : Nat → Bool} {base : Nat}
end
theorem start_ok {P : Program} {gl : Gl} {w : World} {η : Nat → Option Nat} (hg : GlobOk gl w (allOld w)) : HeapOk gl w (allOld w) η (obs []) where
 ob := fun i o ho => by simp [obs] at ho
 inj := fun i j b hi => by simp [Mut, obs] at hi
 imm := fun b hb => hb
 apart := fun i b hi => by simp [Mut, obs] at hi
 dom := fun i o ho => by simp [obs] at ho
 glob := hg
open Go.RowKit in
theorem law_calls {P : Program} {gl : Gl} {f : Nat} {fn : Func} {c : Code} {args : List V} (hf : P.funcs[f]? = some fn) (hb : fn.body = some c) (hn : (fn.name == "runtime.NumGoroutine") = false)
  (hC : Contract P gl f args [] (.bool true) []) {w : World} (hg : GlobOk gl w (allOld w))
  {cs : Array Value} (hr : ∀ η h, V.RepL w (allOld w) η h args cs.toList) (hi : V.idsL args = []) (hlt : f < 1000000000 := by decide) :
  Calls P f cs w fun e w' => e = .returned (.bool true) ∧ Below w.heap.size w w' ∧ ∀ a, w'.frozen? a = w.frozen? a := by
 have h1 := hC w (allOld w) (fun _ => none) (start_ok (P := P) hg) cs (hr _ _) (by simp [hi]) { (default : Oper) with dst := some 0 } { tmps := #[undef], defers := [] } (fun _ _ _ => False)
  (fun a' w' => a'.tmps[0]? = some (.bool true) ∧ Below w.heap.size w w' ∧ ∀ a, w'.frozen? a = w.frozen? a) (fun c' w' A' η' k1 k2 k3 k4 => by
    simp only [V.Rep] at k3
    subst k3
    have old : ∀ b, b < w.heap.size → w'.heap[b]? = w.heap[b]? := fun b hb => k2.imm b hb
    refine ⟨by simp [Act.put], ⟨k2.trans.rest.1, k2.trans.rest.2.1, k2.trans.rest.2.2, k2.trans.size, old⟩, fun a => ?_⟩
    unfold World.frozen?
    by_cases hlt : a.block < w.heap.size
    ·rw [old _ hlt]
    ·rw [show w.heap[a.block]? = none from by simp; omega]
     cases hb' : w'.heap[a.block]? with
     | none => rfl
     | some o =>
       cases o with
       | cells cc T fz =>
         rcases k2.trans.frz _ _ _ _ hb' with rfl | ⟨c₁, T₁, h⟩
         ·simp
         ·rw [show w.heap[a.block]? = none from by simp; omega] at h; cases h
       | _ => rfl)
 have hcall : (callFunc f cs).run P w = .ok (.enter f cs) w := by
  simp only [callFunc, Sem.run_bind, run_program, Result.andThen_ok, hf]
  simp [hn, hb]
 unfold callV at h1
 rw [if_pos hlt, hcall, Oper.uponIn_enter] at h1
 refine (callsIn_wide.1 h1.2).mono fun e w' he => ?_
 cases e with
 | returned v =>
   simp only [Act.put] at he
   obtain ⟨h2, h3, h4⟩ := he
   simp at h2
   exact ⟨by rw [h2], h3, h4⟩
 | panicked ch => exact he.elim
 | outgrown => obtain ⟨_, _, h⟩ := he; exact h.elim
end Vm
namespace Vm
open Go Go.ChangeShapes Go.WideShapes Go.ChangeAt Go.RowKit
section
variable {H : Type} {E : TypeId × Value → H} {P : Program} {w : World}
theorem arg_rep {t : TypeId} {v : Value} {d : DataW H} {ps : List MemPlace} {r : Ks} (a : Bool) (hl0 : rowK P 20 t = some r.toList) (hr : ksOf r.toList = r) (ha : isStruct P t = a)
  (hok : Value.okWide P w .any 0 t v) (h : DataW.Trod E P w 0 (fun _ => true) true t v d ps) :
  ∃ x : r.Ty, Ks.okD r x ∧ ∀ η hh, V.Rep w (allOld w) η hh (enc a r x) v := by
 generalize r.toList = l at hl0 hr
 have hl := hl0
 subst hr
 obtain ⟨fuel, h⟩ := h
 obtain ⟨vs, h1, h2⟩ := trod_kinds 20 t l hl fuel _ _ h
 obtain ⟨x, h3, h4⟩ := h1.cells
 refine ⟨x, h4, fun η hh => ?_⟩
 have h5 := h2 η hh
 cases a with
 | true =>
   unfold isStruct at ha
   split at ha
   ·rename_i fs hu
    unfold Value.okWide at hok
    rw [hu] at hok
    obtain ⟨cs, rfl, _⟩ := hok
    simp only [enc, cond_true, V.Rep]
    rw [h3]
    exact ⟨cs, rfl, h5⟩
   ·rename_i hu
    simp [rowK, hu] at hl0
   ·cases ha
 | false =>
   have hv : ∀ cs, v ≠ .agg cs := by
    rintro cs rfl
    cases hu : P.underlying t with
    | none => simp [rowK, hu] at hl
    | some d =>
      cases d <;> first
       | (simp [isStruct, hu] at ha; done)
       | (simp [rowK, hu] at hl; done)
       | (simp [Value.okWide, Cell.okWide, Cell.ok, hu] at hok; done)
   have hc : v.cells.toList = [v] := by
    cases v <;> first | rfl | exact (hv _ rfl).elim
   rw [hc] at h5
   have hlen : vs.length = 1 := by have := h5.length; simpa using this
   obtain ⟨u, rfl⟩ := List.length_eq_one_iff.1 hlen
   simp only [enc, cond_false]
   rw [h3]
   simp only [V.RepL] at h5
   obtain ⟨c, l', e, h6, _⟩ := h5
   cases e
   exact h6
theorem stays {W W' : World} {t : TypeId} {v : Value} {d : DataW H} {ps : List MemPlace} (hlo : laidOutB P = true) (hr : P.readableRec t = true) (ht : t < P.types.size)
  (h : DataW.Trod E P W 0 (fun _ => true) true t v d ps) (hb : Below W.heap.size W W') (hlt : ∀ x ∈ ps, x.block < W.heap.size) {sp : Nat → Bool} (hsp : ∀ p ∈ ps, sp p.block = true) :
  DataW.Trod E P W' 0 sp true t v d ps :=
 WideElems.Trod_stays hlo hr ht h (fun x hx => hb.same (hlt x hx)) hsp
end
end Vm
namespace Vm
open Go
section
variable {P : Program} {gl : Gl}
variable (f : Nat)
def Entry.oneF (a₁ : Bool) (r₁ : Ks) (h₁ : a₁ = false → r₁.len = 1) (g : Nat) (res : r₁.Ty → Bool × V) (says : ∀ x, (res x).1 = true → Contract P gl f [enc a₁ r₁ x, .fn g [] []] [] (res x).2 []) : Entry P gl where
 f := f
 g := fun args os => match args, os with
   | [v, .fn g' [] []], [] => bif Nat.beq g' g then match rd a₁ r₁ v with
       | some x => some ((res x).1, (res x).2, [])
       | none => none
     else none
   | _, _ => none
 says := fun args os c v os' h hc => by
  split at h
  ·rename_i v₁ g'
   cases hb : Nat.beq g' g with
   | false => rw [hb, cond_false] at h; cases h
   | true =>
     rw [hb, cond_true] at h
     have := Nat.eq_of_beq_eq_true hb
     subst this
     split at h
     ·rename_i x hx
      cases h
      refine (says x hc).args (fun w A η cs hr => ?_) (by simp [V.idsL, V.ids, (enc_ids a₁ r₁ x).1]) (by simp [rootsN, V.rootsL, V.roots, (enc_ids a₁ r₁ x).2, (rd_ids hx).2])
      simp only [V.RepL] at hr ⊢
      obtain ⟨c, l, rfl, h2, h3⟩ := hr
      exact ⟨c, l, rfl, rd_rep hx h₁ h2, h3⟩
     ·cases h
  ·cases h
end
def part (k : Nat) (b : UInt8) : Int := IntKind.u64.wrap (IntKind.u64.wrap (b.toNat : Int) * 2 ^ min k IntKind.u64.bits)
end Vm
namespace Vm
section
variable {R : Type} (kk : V → List Ob → Option R)
end
end Vm
namespace Vm
open Go
section
variable {P : Program} {gl : Gl} (f : Nat)
end
def arrX (r : Ks) : Ob → Option (List r.Ty)
 | .arr r' xs false => match Ks.eqp r' r with
   | some ⟨h⟩ => some (Ks.cast h xs)
   | none => none
 | _ => none
theorem arrX_eq {r : Ks} {o : Ob} {xs : List r.Ty} (h : arrX r o = some xs) : o = .arr r xs false := by
 unfold arrX at h
 split at h
 ·split at h
  ·rename_i e _
   subst e
   cases h
   rfl
  ·cases h
 ·cases h
def intX : V → Option Int
 | .int .i64 n => some n
 | _ => none
theorem intX_eq {v : V} {n : Int} (h : intX v = some n) : v = .int .i64 n := by
 unfold intX at h
 split at h
 ·cases h; rfl
 ·cases h
end Vm
