/- The value machine's operations are sound: stores, maps, windows, texts and maps gone through; what an answer hangs on. -/
import Derived.Test.YtkhclggkicnndaaDoorVmB
namespace Vm
open Go
section ops
variable {P : Program} {E : Env} {gl : Gl} {m : Nat} {w : World} {A : ASet} {η : Nat → Option Nat} {fr : Nat → Option V} {h : Nat → Option Ob} {a : Act}
variable {R : Type} {kk : Kk R} {r : R}
theorem cell_one {v : V} {c : Value} (hv : v.cell = true) (hr : V.Rep w A η h v c) : c.oneCell' = true := by
 cases v <;> simp only [V.cell, Bool.false_eq_true] at hv <;> simp only [V.Rep, K.Rep, OwnRep] at hr
 case own i =>
  split at hr
  ·rcases hr with ⟨_, _, _, rfl⟩ | ⟨_, _, _, _, _, rfl, _⟩ <;> rfl
  ·obtain ⟨_, _, _, rfl⟩ := hr; rfl
 case win i _ _ _ => obtain ⟨_, _, _, _, rfl, _⟩ := hr; rfl
 all_goals first
  | (subst hr; rfl)
  | (obtain ⟨_, _, rfl, _⟩ := hr; rfl)
  | (obtain ⟨_, rfl, _⟩ := hr; rfl)
  | (obtain ⟨_, _, rfl⟩ := hr; rfl)
  | (obtain ⟨_, _, _, rfl, _⟩ := hr; rfl)
theorem cells_one : {l : List V} → {cs : List Value} → l.all V.cell = true → V.RepL w A η h l cs → ∀ c ∈ cs, c.oneCell' = true
 | [], _, _, hr => by simp only [V.RepL] at hr; subst hr; simp
 | v :: l, _, hl, hr => by
   simp only [V.RepL] at hr
   obtain ⟨c, cs, rfl, h1, h2⟩ := hr
   simp only [List.all_cons, Bool.and_eq_true] at hl
   intro d hd
   rcases List.mem_cons.1 hd with rfl | hd
   ·exact cell_one hl.1 h1
   ·exact cells_one hl.2 h2 d hd
theorem froze_ne {is : List Nat} {j : Nat} (hj : j ∉ is) : ups (froze h is) h j = h j := by
 induction is with
 | nil => rfl
 | cons i is ih =>
   simp only [List.mem_cons, not_or] at hj
   simp only [froze]
   split
   ·rw [ups_cons, ovr_ne _ _ (fun e => hj.1 e.symm)]; exact ih hj.2
   ·exact ih hj.2
theorem idsL_get : {l : List V} → {i : Nat} → {v : V} → l[i]? = some v → ∀ j ∈ v.ids, j ∈ V.idsL l
 | [], _, _, hi, _, _ => by simp at hi
 | u :: l, i, v, hi, j, hj => by
   simp only [V.idsL, List.mem_append]
   cases i with
   | zero => simp at hi; subst hi; exact .inl hj
   | succ i => exact .inr (idsL_get (by simpa using hi) j hj)
theorem idsL_append : (l m : List V) → V.idsL (l ++ m) = V.idsL l ++ V.idsL m
 | [], m => rfl
 | v :: l, m => by simp only [List.cons_append, V.idsL, idsL_append l m, List.append_assoc]
theorem idsL_take (l : List V) (n : Nat) : ∀ j ∈ V.idsL (l.take n), j ∈ V.idsL l := by
 intro j hj
 rw [← List.take_append_drop n l, idsL_append]; simp [hj]
theorem idsL_drop (l : List V) (n : Nat) : ∀ j ∈ V.idsL (l.drop n), j ∈ V.idsL l := by
 intro j hj
 rw [← List.take_append_drop n l, idsL_append]; simp [hj]
theorem heap_set {b : Nat} (hlt : b < w.heap.size) (x : Obj) : ({ w with heap := w.heap.setIfInBounds b x } : World).heap[b]? = some x := by simp [hlt]
theorem run_storeVar (henv : EnvOk P E) {t : TypeId} {ti : TI} (ht : E.τ t = some ti) {b off : Nat} {c : Array Value} {T : TypeId} {v : Value} (hb : w.heap[b]? = some (.cells c T (0, 0))) (hl : off + v.cells.toList.length ≤ c.size)
  (hs : v.cells.size = ti.size) (h1 : ∀ x ∈ v.cells.toList, x.oneCell' = true) :
  (storeVar t ⟨b, off, none⟩ v).run P w = .ok () { w with heap := w.heap.setIfInBounds b (.cells (c.toList.take off ++ (v.cells.toList ++ c.toList.drop (off + v.cells.toList.length))).toArray T) } := by
 simp only [storeVar, Sem.run_bind, henv.run_size ht, Result.andThen_ok]
 rw [if_neg (by simp [hs])]
 exact run_storeBlock hb hl h1
theorem set_cell {c : Array Value} {T : TypeId} {b off : Nat} {vs : List Value} (hb : w.heap[b]? = some (.cells c T (0, 0))) (hl : off + vs.length ≤ c.size) {w' : World}
  (hw : w' = { w with heap := w.heap.setIfInBounds b (.cells (c.toList.take off ++ (vs ++ c.toList.drop (off + vs.length))).toArray T) }) :
  (∀ j v, (j < off ∨ off + vs.length ≤ j) → CellAt w b j v → CellAt w' b j v) ∧ ∀ j v, vs[j]? = some v → CellAt w' b (off + j) v := by
 have hlt : b < w.heap.size := (Array.getElem?_eq_some_iff.1 hb).1
 have hb' : w'.heap[b]? = some (.cells (c.toList.take off ++ (vs ++ c.toList.drop (off + vs.length))).toArray T) := by
  rw [hw]; simp [hlt]
 constructor
 ·intro j v hj ⟨c', T', fz, h1, h2⟩
  rw [hb] at h1; cases h1
  refine ⟨_, _, _, hb', ?_⟩
  simp only [List.getElem?_toArray]
  rw [← Array.getElem?_toList] at h2
  rcases hj with hj | hj
  ·rw [List.getElem?_append_left (by simp; omega), List.getElem?_take_of_lt hj]; exact h2
  ·have hlen : j < c.toList.length := (List.getElem?_eq_some_iff.1 h2).1
   rw [List.getElem?_append_right (by simp; omega), List.length_take, Nat.min_eq_left (by simp; omega), List.getElem?_append_right (by omega), List.getElem?_drop]
   rw [show off + vs.length + (j - off - vs.length) = j from by omega]; exact h2
 ·intro j v hv
  have hj : j < vs.length := (List.getElem?_eq_some_iff.1 hv).1
  refine ⟨_, _, _, hb', ?_⟩
  simp only [List.getElem?_toArray]
  rw [List.getElem?_append_right (by simp; omega), List.length_take, Nat.min_eq_left (by simp; omega), List.getElem?_append_left (by omega)]
  rw [show off + j - off = j from by omega]; exact hv
theorem getAt_setAt {l u : List V} {off : Nat} (hl : off + u.length ≤ l.length) {j : Nat} {x : V} (hx : (setAt l off u)[j]? = some x) :
  ((j < off ∨ off + u.length ≤ j) ∧ l[j]? = some x) ∨ ∃ k, j = off + k ∧ u[k]? = some x := by
 unfold setAt at hx
 by_cases h1 : j < off
 ·rw [List.getElem?_append_left (by simp; omega), List.getElem?_take_of_lt h1] at hx
  exact .inl ⟨.inl h1, hx⟩
 ·rw [List.getElem?_append_right (by simp; omega), List.length_take, Nat.min_eq_left (by omega)] at hx
  by_cases h2 : j < off + u.length
  ·rw [List.getElem?_append_left (by omega)] at hx
   exact .inr ⟨j - off, by omega, hx⟩
  ·rw [List.getElem?_append_right (by omega), List.getElem?_drop, show off + u.length + (j - off - u.length) = j from by omega] at hx
   exact .inl ⟨.inr (by omega), hx⟩
theorem store_yields (henv : EnvOk P E) (hgl : E.gl = gl) (hs : SOk gl w A η fr h a.tmps) {o : Oper} {t : TypeId} {x y : Operand} (ho : o.op = .store t x y) (hv : effStore E fr h kk t x y = some r) :
  Goal P gl m w A η h a o fun S kk => effStore E fr h kk t x y := by
 unfold effStore at hv
 split at hv
 ·rename_i ti p v h1 hx hy
  by_cases hc : (decide ((cellsOf v).length = ti.size) && (cellsOf v).all V.cell) = true
  ·rw [hc, cond_true] at hv
   simp only [Bool.and_eq_true, decide_eq_true_eq] at hc
   obtain ⟨hc1, hc2⟩ := hc
   have hcc : (decide ((cellsOf v).length = ti.size) && (cellsOf v).all V.cell) = true := by simp only [Bool.and_eq_true, decide_eq_true_eq]; exact ⟨hc1, hc2⟩
   obtain ⟨rp, dp⟩ := ev_rep hgl hs hx
   obtain ⟨rv, dv⟩ := ev_rep hgl hs hy
   obtain ⟨rc, ic⟩ := cellsOf_rep rv
   have one : ∀ c ∈ (a.eval y).cells.toList, c.oneCell' = true := cells_one hc2 rc
   have hsz : (a.eval y).cells.size = ti.size := by rw [← hc1, rc.length]; simp
   unfold storeAt at hv
   split at hv
   ·rename_i i k n off
    simp only [V.Rep] at rp
    obtain ⟨b, hb, hp⟩ := rp
    have run : ∀ {c : Array Value} {T : TypeId}, w.heap[b]? = some (.cells c T (0, 0)) → k * n + off + (a.eval y).cells.toList.length ≤ c.size →
      (execOp a.eval o).run P w = .ok .skip { w with heap := w.heap.setIfInBounds b (.cells (c.toList.take (k * n + off) ++ ((a.eval y).cells.toList ++ c.toList.drop (k * n + off + (a.eval y).cells.toList.length))).toArray T) } := by
     intro c T h2 h3
     simp [execOp, ho, Instr.storeAt, hp, Instr.sureAddr, run_storeVar henv h1 h2 h3 hsz one]
    split at hv
    ·
     rename_i cs hi
     by_cases hk : k = 0 ∧ off + (cellsOf v).length ≤ cs.length
     ·have hkd : decide (k = 0 ∧ off + (cellsOf v).length ≤ cs.length) = true := decide_eq_true hk
      rw [hkd, cond_true] at hv
      obtain ⟨rfl, hk⟩ := hk
      obtain ⟨b', c, T, g1, g2, g3⟩ := hs.heap.ob i _ hi
      rw [hb] at g1; cases g1
      have hlen := g3.length
      have hl : 0 * n + off + (a.eval y).cells.toList.length ≤ c.size := by rw [Nat.zero_mul, Nat.zero_add, ← rc.length]; simpa [hlen] using hk
      have hr := run g2 hl
      have hm : Mut h i := by unfold Mut; rw [hi]; trivial
      have hid : ∀ j ∈ (Ob.var (setAt cs off (cellsOf v))).ids, h j ≠ none := by
       intro j hj
       simp only [Ob.ids, setAt, idsL_append, List.mem_append] at hj
       rcases hj with hj | hj | hj
       ·exact hs.heap.dom i _ hi j (idsL_take _ _ j hj)
       ·rw [ic] at hj; exact dv j hj
       ·exact hs.heap.dom i _ hi j (idsL_drop _ _ j hj)
      have st := HStep.turn (m := m) (o' := .var (setAt cs off (cellsOf v))) (x := .cells (c.toList.take off ++ ((a.eval y).cells.toList ++ c.toList.drop (off + (a.eval y).cells.toList.length))).toArray T) hs.heap (.of g2 (by intro rec e; cases e)) (by intro c T fz e; cases e <;> rfl) hi hm hb
       (fun u hu => by unfold OwnRep at hu ⊢; rw [ovr_same]; rw [hi] at hu; exact hu) hid (fun st => by
         have hlt : b < w.heap.size := (Array.getElem?_eq_some_iff.1 g2).1
         refine ⟨b, _, T, hb, heap_set hlt _, ?_⟩
         have r1 := V.RepL.mono st cs _ (fun j hj => hs.heap.dom i _ hi j hj) g3
         have r2 := V.RepL.mono st (cellsOf v) _ (fun j hj => dv j (ic ▸ hj)) rc
         simpa using repL_set r1 r2 off)
      refine ⟨.undef, [(i, .var (setAt cs off (cellsOf v)))], fun S kk => by simp only [effStore, h1, hx, hy, hcc, cond_true, storeAt, hi]; rw [decide_eq_true (⟨trivial, hk⟩ : True ∧ _), cond_true], _, Go.undef, _, A, η, hr, .inr ⟨rfl, rfl⟩, ?_, by simp [V.Rep], by simp [V.ids]⟩
      rw [ups_cons, ups_nil]
      simpa using st
     ·rw [decide_eq_false hk, cond_false] at hv; cases hv
    ·
     rename_i r₀ xs hi
     split at hv
     ·rename_i v' is hpl
      by_cases hk : (decide (n = r₀.len ∧ off + (cellsOf v').length ≤ r₀.len) && !is.contains i) = true
      ·rw [hk, cond_true] at hv
       have hkd := hk
       simp only [Bool.and_eq_true, decide_eq_true_eq, Bool.not_eq_true', List.contains_eq_mem, decide_eq_false_iff_not] at hk
       obtain ⟨⟨rfl, hk⟩, hni⟩ := hk
       split at hv
       ·rename_i x₀ hx₀
        split at hv
        ·rename_i y₀ hy₀
         obtain ⟨f1, f2, f3⟩ := V.plain_rep hs.heap v v' is hpl _ rv
         obtain ⟨A', st1, hA', _, _⟩ := HStep.froze (m := m) hs.heap is fun j hj => (f3 j hj).2
         have rv' := f1 A' (fun b hb => (hA' b).2 (.inl hb)) (fun j hj b hb => (hA' b).2 (.inr ⟨j, hj, hb⟩))
         obtain ⟨rc', ic'⟩ := cellsOf_rep rv'
         have hi' : ups (froze h is) h i = some (.arr r₀ xs false) := by rw [froze_ne hni]; exact hi
         have hm : Mut (ups (froze h is) h) i := by unfold Mut; rw [hi']; trivial
         rcases st1.ok.ob i _ hi' with ⟨g0, _⟩ | ⟨b', c, T, g1, g2, g3, _, g5⟩
         ·rw [hb] at g0; cases g0
         ·rw [hb] at g1; cases g1
          have hkl : k < xs.length := (List.getElem?_eq_some_iff.1 hx₀).1
          have hlv : (a.eval y).cells.toList.length = (cellsOf v').length := rc'.length.symm
          have hmul : k * r₀.len + r₀.len ≤ xs.length * r₀.len := by
           have := Nat.mul_le_mul_right r₀.len (show k + 1 ≤ xs.length from hkl); rwa [Nat.add_mul, Nat.one_mul] at this
          have hl : k * r₀.len + off + (a.eval y).cells.toList.length ≤ c.size := by rw [hlv]; omega
          have hr := run g2 hl
          have hlt : b < w.heap.size := (Array.getElem?_eq_some_iff.1 g2).1
          obtain ⟨s1, s2⟩ := set_cell g2 hl rfl
          have st := HStep.turn (m := m) (o' := .arr r₀ (xs.set k y₀) false) (x := .cells (c.toList.take (k * r₀.len + off) ++ ((a.eval y).cells.toList ++ c.toList.drop (k * r₀.len + off + (a.eval y).cells.toList.length))).toArray T) st1.ok (.of g2 (by intro rec e; cases e)) (by intro c T fz e; cases e <;> rfl) hi' hm hb
           (fun u hu => by
             unfold OwnRep at hu ⊢; rw [ovr_same]; rw [hi'] at hu
             dsimp only at hu ⊢
             rcases hu with ⟨e, _⟩ | ⟨b', cap, c', T', e1, e2, e3, e4, e5⟩
             ·rw [hb] at e; cases e
             ·rw [hb] at e1; cases e1
              rw [g2] at e4; cases e4
              refine .inr ⟨b, cap, _, T, hb, by rw [List.length_set]; exact e2, by rw [List.length_set]; exact e3, heap_set hlt _, ?_⟩
              have : (c.toList.take (k * r₀.len + off) ++ ((a.eval y).cells.toList ++ c.toList.drop (k * r₀.len + off + (a.eval y).cells.toList.length))).toArray.size = c.size := by simp; simp at hl; omega
              rw [this]; exact e5)
           (by simp [Ob.ids]) (fun st => by
             refine .inr ⟨b, _, T, hb, heap_set hlt _, ?_, by simp, fun k' x' hx' => ?_⟩
             ·rw [List.length_set]; simp at hl ⊢; omega
             ·by_cases hkk : k' = k
              ·subst hkk
               rw [List.getElem?_set_self hkl] at hx'
               cases hx'
               refine Ks.close_rep (η := η) (h := ovr (ups (froze h is) h) i (.arr r₀ (xs.set k' y₀) false)) r₀ _ _ hy₀ b _ fun j u hu => ?_
               rcases getAt_setAt (by rw [Ks.cells_length]; exact hk) hu with ⟨h3, h4⟩ | ⟨q, rfl, h4⟩
               ·obtain ⟨d, h5, h6⟩ := (g5 k' x₀ hx₀).get (η := η) (h := ups (froze h is) h) r₀ x₀ _ _ j u h4
                refine ⟨d, s1 _ _ (by rw [hlv]; omega) h5, V.Rep.mono st u d ?_ h6⟩
                intro q hq
                have := idsL_get h4 q hq
                rw [Ks.cells_ids] at this; cases this
               ·obtain ⟨d, h5, h6⟩ := rc'.get h4
                have st0 : Still w w A' A' η η h (ups (froze h is) h) (fun i => h i ≠ none) := ⟨fun b hb => ⟨hb, rfl⟩, fun _ _ => rfl, st1.still.own⟩
                have du : ∀ j ∈ u.ids, h j ≠ none := fun j hj => dv j (f2 j (ic' ▸ idsL_get h4 j hj))
                exact ⟨d, by rw [← Nat.add_assoc]; exact s2 q d h5, V.Rep.mono st u d (fun j hj => st1.dom j (du j hj)) (V.Rep.mono st0 u d du h6)⟩
              ·rw [List.getElem?_set_ne (Ne.symm hkk)] at hx'
               refine Ks.Rep.cells st.imm r₀ x' b _ b _ (fun j u hj hu => s1 _ _ ?_ hu) (g5 k' x' hx')
               rw [hlv]
               rcases Nat.lt_or_gt_of_ne hkk with hlt' | hlt'
               ·have := Nat.mul_le_mul_right r₀.len (show k' + 1 ≤ k from hlt')
                rw [Nat.add_mul, Nat.one_mul] at this; omega
               ·have := Nat.mul_le_mul_right r₀.len (show k + 1 ≤ k' from hlt')
                rw [Nat.add_mul, Nat.one_mul] at this; omega)
          refine ⟨.undef, (i, .arr r₀ (xs.set k y₀) false) :: froze h is, fun S kk => by simp only [effStore, h1, hx, hy, hcc, cond_true, storeAt, hi, hpl]; rw [decide_eq_true (⟨trivial, hk⟩ : True ∧ _), show is.contains i = false by simpa using hni]; simp only [Bool.not_false, Bool.and_true, cond_true, hx₀, hy₀], _, Go.undef, _, A', η, hr, .inr ⟨rfl, rfl⟩, ?_, by simp [V.Rep], by simp [V.ids]⟩
          rw [ups_cons]
          exact st1.trans' st
        ·cases hv
       ·cases hv
      ·rw [Bool.eq_false_iff.2 hk, cond_false] at hv; cases hv
     ·cases hv
    ·cases hv
   ·cases hv
  ·rw [Bool.eq_false_iff.2 hc, cond_false] at hv; cases hv
 ·cases hv
end ops
end Vm
namespace Vm
open Go
section ops
variable {P : Program} {E : Env} {gl : Gl} {m : Nat} {w : World} {A : ASet} {η : Nat → Option Nat} {fr : Nat → Option V} {h : Nat → Option Ob} {a : Act}
variable {R : Type} {kk : Kk R} {r : R}
def Found (w : World) (A : ASet) (kr : Ks) (ka : Bool) (vr : Ks) (va : Bool) (i₀ : Nat) (k : kr.Ty) (es : List (kr.Ty × vr.Ty)) (ents : List MapEntry) : Option (Nat × Value) → Prop
 | none => findKey kr.beq k es = none ∧ ∀ x, setKey kr.beq k x es = es ++ [(k, x)]
 | some (j, val) => ∃ i x k' e, j = i₀ + i ∧ findKey kr.beq k es = some x ∧ ents[i]? = some e ∧ e.val = val ∧ RowVal w A va vr x val ∧ RowVal w A ka kr k' e.key ∧ kr.beq k k' = true ∧ i < es.length ∧
  ∀ y, setKey kr.beq k y es = es.set i (k, y)
theorem Found.here {kr : Ks} {ka : Bool} {vr : Ks} {va : Bool} {i₀ : Nat} {k k' : kr.Ty} {x : vr.Ty} {es : List (kr.Ty × vr.Ty)} {e : MapEntry} {l : List MapEntry} (hb : kr.beq k k' = true) (h1 : RowVal w A ka kr k' e.key) (h2 : RowVal w A va vr x e.val) :
  Found w A kr ka vr va i₀ k ((k', x) :: es) (e :: l) (some (i₀, e.val)) :=
 ⟨0, x, k', e, rfl, by simp [findKey, hb], rfl, rfl, h2, h1, hb, by simp, fun y => by simp [setKey, hb]⟩
theorem Found.behind {kr : Ks} {ka : Bool} {vr : Ks} {va : Bool} {i₀ : Nat} {k k' : kr.Ty} {x : vr.Ty} {es : List (kr.Ty × vr.Ty)} {e : MapEntry} {l : List MapEntry} {q : Option (Nat × Value)} (hb : kr.beq k k' = false)
  (hf : Found w A kr ka vr va (i₀ + 1) k es l q) : Found w A kr ka vr va i₀ k ((k', x) :: es) (e :: l) q := by
 cases q with
 | none => exact ⟨by simp [findKey, hb]; exact hf.1, fun y => by simp only [setKey, hb]; rw [hf.2 y]; rfl⟩
 | some q =>
   obtain ⟨j, val⟩ := q
   obtain ⟨i, x', k'', e', h1, h2, h3, h4, h5, h6, h7, h8, h9⟩ := hf
   exact ⟨i + 1, x', k'', e', by omega, by simp [findKey, hb]; exact h2, by simpa using h3, h4, h5, h6, h7, by simp; omega, fun y => by simp only [setKey, hb]; rw [h9 y]; rfl⟩
theorem asking_run {kt : TypeId} {kr : Ks} {ka : Bool} (K : KeyOk P kt kr ka) {vr : Ks} {va : Bool} {k : kr.Ty} {v : Value} (hk : RowVal w A ka kr k v) : (es : List (kr.Ty × vr.Ty)) → (ents : List MapEntry) → (i₀ : Nat) → EntsRep w A kr ka vr va es ents →
  ∃ q, (Instr.findAsking kt v ents i₀).run P w = .ok q w ∧ Found w A kr ka vr va i₀ k es ents q
 | [], ents, i₀, he => by
   simp only [EntsRep] at he
   subst he
   exact ⟨none, rfl, by simp [findKey], by simp [setKey]⟩
 | (k', x) :: es, ents, i₀, he => by
   simp only [EntsRep] at he
   obtain ⟨e, l, rfl, h1, h2, h3⟩ := he
   cases hb : kr.beq k k' with
   | true => exact ⟨some (i₀, e.val), by simp [Instr.findAsking, K.eq w A k k' v e.key hk h1, hb], .here hb h1 h2⟩
   | false =>
     obtain ⟨q, hq, hf⟩ := asking_run K hk es l (i₀ + 1) h3
     exact ⟨q, by simp [Instr.findAsking, K.eq w A k k' v e.key hk h1, hb, hq], .behind hb hf⟩
theorem now_run {kt : TypeId} {kr : Ks} {ka : Bool} (K : KeyOk P kt kr ka) {d : TypeDesc} (hd : P.underlying kt = some d) {vr : Ks} {va : Bool} {k : kr.Ty} {v : Value} (hk : RowVal w A ka kr k v) : (es : List (kr.Ty × vr.Ty)) → (ents : List MapEntry) → (i₀ : Nat) → EntsRep w A kr ka vr va es ents →
  ∀ q, Instr.findNow d v ents i₀ = some q → Found w A kr ka vr va i₀ k es ents q
 | [], ents, i₀, he, q, hq => by
   simp only [EntsRep] at he
   subst he
   simp only [Instr.findNow, Option.some.injEq] at hq
   subst hq
   exact ⟨by simp [findKey], by simp [setKey]⟩
 | (k', x) :: es, ents, i₀, he, q, hq => by
   simp only [EntsRep] at he
   obtain ⟨e, l, rfl, h1, h2, h3⟩ := he
   simp only [Instr.findNow] at hq
   rcases K.now w A d k k' v e.key hd hk h1 with hn | hn
   ·rw [hn] at hq; cases hq
   ·rw [hn] at hq
    cases hb : kr.beq k k' with
    | true => rw [hb] at hq; simp only [Option.some.injEq] at hq; subst hq; exact .here hb h1 h2
    | false => rw [hb] at hq; simp only at hq; exact .behind hb (now_run K hd hk es l _ h3 q hq)
theorem find_run {kt : TypeId} {kr : Ks} {ka : Bool} (K : KeyOk P kt kr ka) {vr : Ks} {va : Bool} {k : kr.Ty} {v : Value} (hk : RowVal w A ka kr k v) {es : List (kr.Ty × vr.Ty)} {ents : List MapEntry} (he : EntsRep w A kr ka vr va es ents) :
  ∃ q, (Instr.findKey kt v ents).run P w = .ok q w ∧ Found w A kr ka vr va 0 k es ents q := by
 obtain ⟨d, hd⟩ := K.kind
 obtain ⟨q, hq, hf⟩ := asking_run K hk es ents 0 he
 simp only [Instr.findKey, Sem.run_bind, run_underlying hd, Result.andThen_ok]
 cases hn : Instr.findNow d v ents 0 with
 | none => exact ⟨q, by simp only [hq], hf⟩
 | some q' => exact ⟨q', rfl, now_run K hd hk es ents 0 he q' hn⟩
theorem EntsRep.set {kr : Ks} {ka : Bool} {vr : Ks} {va : Bool} : {es : List (kr.Ty × vr.Ty)} → {l : List MapEntry} → EntsRep w A kr ka vr va es l → (i : Nat) → i < es.length → {k : kr.Ty} → {x : vr.Ty} → (e : MapEntry → MapEntry) →
  (∀ e₀, RowVal w A ka kr k (e e₀).key ∧ RowVal w A va vr x (e e₀).val) → EntsRep w A kr ka vr va (es.set i (k, x)) (l.modify i e)
 | [], _, _, i, hi, _, _, _, _ => by simp at hi
 | (k', x') :: es, l, he, i, hi, k, x, e, h1 => by
   simp only [EntsRep] at he
   obtain ⟨e', l', rfl, h3, h4, h5⟩ := he
   cases i with
   | zero => simp only [List.set_cons_zero, List.modify_zero_cons, EntsRep]; exact ⟨_, _, rfl, (h1 e').1, (h1 e').2, h5⟩
   | succ i => simp only [List.set_cons_succ, List.modify_succ_cons, EntsRep]; exact ⟨e', _, rfl, h3, h4, EntsRep.set h5 i (by simpa using hi) e h1⟩
theorem EntsRep.push {kr : Ks} {ka : Bool} {vr : Ks} {va : Bool} : {es : List (kr.Ty × vr.Ty)} → {l : List MapEntry} → EntsRep w A kr ka vr va es l → {k : kr.Ty} → {x : vr.Ty} → {e : MapEntry} →
  RowVal w A ka kr k e.key → RowVal w A va vr x e.val → EntsRep w A kr ka vr va (es ++ [(k, x)]) (l ++ [e])
 | [], _, he, _, _, e, h1, h2 => by simp only [EntsRep] at he; subst he; simp only [List.nil_append, EntsRep]; exact ⟨e, [], rfl, h1, h2, rfl⟩
 | (k', x') :: es, l, he, k, x, e, h1, h2 => by
   simp only [EntsRep] at he
   obtain ⟨e', l', rfl, h3, h4, h5⟩ := he
   simp only [List.cons_append, EntsRep]
   exact ⟨e', _, rfl, h3, h4, EntsRep.push h5 h1 h2⟩
theorem EntsRep.length {kr : Ks} {ka : Bool} {vr : Ks} {va : Bool} : {es : List (kr.Ty × vr.Ty)} → {l : List MapEntry} → EntsRep w A kr ka vr va es l → l.length = es.length
 | [], _, he => by simp only [EntsRep] at he; subst he; rfl
 | (k', x') :: es, l, he => by
   simp only [EntsRep] at he
   obtain ⟨e', l', rfl, h3, h4, h5⟩ := he
   simp [EntsRep.length h5]
theorem rowVal_close {k : V} {c : Value} {kr : Ks} {key : kr.Ty} (hc : Ks.close kr (cellsOf k) = some key) (hr : V.Rep w A η h k c) : RowVal w A (isAggV k) kr key c := by
 obtain ⟨r1, _⟩ := cellsOf_rep hr
 have r2 := RowVals.close kr (cellsOf k) key hc r1
 unfold RowVal
 by_cases ha : ∃ l, k = .agg l
 ·obtain ⟨l, rfl⟩ := ha
  simp only [V.Rep] at hr
  obtain ⟨cs, rfl, _⟩ := hr
  exact ⟨cs, rfl, r2⟩
 ·have hf : isAggV k = false := by cases k <;> first | rfl | exact (ha ⟨_, rfl⟩).elim
  rw [hf]
  have hn : ∀ cs, c ≠ .agg cs := by
   intro cs e
   subst e
   cases k <;> simp only [V.Rep, K.Rep, OwnRep] at hr
   case own => split at hr
               ·rcases hr with ⟨_, _, _, e⟩ | ⟨_, _, _, _, _, e, _⟩ <;> cases e
               ·obtain ⟨_, _, _, e⟩ := hr; cases e
   case win => obtain ⟨_, _, _, _, e, _⟩ := hr; cases e
   all_goals first
    | exact ha ⟨_, rfl⟩
    | (cases hr; done)
    | (obtain ⟨_, _, e, _⟩ := hr; cases e; done)
    | (obtain ⟨_, e, _⟩ := hr; cases e; done)
    | (obtain ⟨_, _, e⟩ := hr; cases e; done)
    | (obtain ⟨_, _, _, e, _⟩ := hr; cases e; done)
  have hv : c.cells = #[c] := by cases c <;> first | rfl | exact absurd rfl (hn _)
  rw [hv] at r2
  exact ⟨hn, r2⟩
theorem rowVal_rep (henv : EnvOk P E) {t : TypeId} {ti : TI} (ht : E.τ t = some ti) {vr : Ks} {x : vr.Ty} {v : V} (hm : mk1 ti (vr.cells x) = some v) {c : Value} (hr : RowVal w A ti.agg vr x c) : V.Rep w A η h v c ∧ v.ids = [] := by
 have key : ∀ cs : List Value, RowVals w A vr x cs → (if ti.agg then c = .agg cs.toArray else cs = [c]) → V.Rep w A η h v c ∧ v.ids = [] := by
  intro cs hcs hc
  obtain ⟨d, h1, h2, h3⟩ := mk1_rep (η := η) (h := h) henv ht hm (RowVals.repL vr x cs hcs)
  have : d = c := by
   split at h2
   ·rename_i ha; rw [if_pos ha] at hc; rw [h2, hc]
   ·rename_i ha; rw [if_neg ha] at hc; rw [hc] at h2; simpa using h2.symm
  subst this
  refine ⟨h1, ?_⟩
  rw [Ks.cells_ids] at h3
  exact List.eq_nil_iff_forall_not_mem.2 fun i hi => by simpa using (h3 i).1 hi
 unfold RowVal at hr
 split at hr
 ·rename_i ha
  obtain ⟨cs, rfl, h1⟩ := hr
  exact key cs.toList h1 (by rw [if_pos ha])
 ·rename_i ha
  exact key [c] hr.2 (by rw [if_neg ha])
theorem zero_rowVal (henv : EnvOk P E) {t : TypeId} {ti : TI} (ht : E.τ t = some ti) {vr : Ks} {z : vr.Ty} (hz : Ks.close vr ti.zero = some z) :
  ∃ zv : Value, (∀ w, (zeroValue t).run P w = .ok zv w) ∧ ∀ w A, RowVal w A ti.agg vr z zv := by
 obtain ⟨zv, h1, h2⟩ := henv.zero ht
 refine ⟨zv, h1, fun w A => ?_⟩
 unfold RowVal
 split at h2
 ·rename_i ha
  obtain ⟨cs, rfl, h3⟩ := h2
  rw [if_pos ha]
  exact ⟨cs, rfl, RowVals.close (η := fun _ => none) (h := fun _ => none) _ _ _ hz (zeroL_rep h3).1⟩
 ·rename_i ha
  rw [if_neg ha]
  exact ⟨h2.1, RowVals.close (η := fun _ => none) (h := fun _ => none) _ _ _ hz (zeroL_rep h2.2).1⟩
theorem beqInt_eq {a b : Int} (h : beqInt a b = true) : a = b := of_decide_eq_true h
theorem K.beq_eq : (k : K) → {a b : k.Ty} → k.cmp = true → k.beq a b = true → a = b
 | .int _, a, b, _, h => beqInt_eq h
 | .bool, a, b, _, h => eq_of_beq (α := Bool) (a := a) (b := b) h
 | .str, a, b, _, h => eq_of_beq (α := List UInt8) (a := a) (b := b) h
 | .sl _, _, _, h, _ => by cases h
theorem Ks.beq_eq : (r : Ks) → {a b : r.Ty} → r.cmp = true → r.beq a b = true → a = b
 | .nil, a, b, _, _ => rfl
 | .cons k .nil, a, b, hc, h => by
   simp only [Ks.cmp, Bool.and_eq_true] at hc
   exact K.beq_eq k hc.1 h
 | .cons k (.cons k' r), a, b, hc, h => by
   simp only [Ks.cmp, Bool.and_eq_true] at hc
   simp only [Ks.beq, Bool.and_eq_true] at h
   exact Prod.ext (K.beq_eq k hc.1 h.1) (Ks.beq_eq (.cons k' r) (by simp only [Ks.cmp, Bool.and_eq_true]; exact hc.2) h.2)
theorem lookup_yields (henv : EnvOk P E) (hgl : E.gl = gl) (hs : SOk gl w A η fr h a.tmps) {o : Oper} {t : TypeId} {x y : Operand} {ok : Bool} (ho : o.op = .lookup t x y ok) (hv : effLookup E fr h kk t x y ok = some r) :
  Goal P gl m w A η h a o fun S kk => effLookup E fr h kk t x y ok := by
 unfold effLookup at hv
 split at hv
 ·rename_i ti mv kv h1 hx hy
  obtain ⟨rx, dx⟩ := ev_rep hgl hs hx
  obtain ⟨ry, dy⟩ := ev_rep hgl hs hy
  split at hv
  ·rename_i te hk h2
   obtain ⟨kt, hkt⟩ := tk_map henv h1 hk
   have K := henv.key t ti kt _ h1 hk hkt
   split at hv
   ·rename_i i
    simp only [V.Rep] at rx
    obtain ⟨b, hb, hxe⟩ := rx
    split at hv
    ·rename_i kr ka vr va es hi
     split at hv
     ·rename_i key z hkey hz
      by_cases hc : ((Ks.eqp kr ti.key).isSome && (va == te.agg) && (ka == isAggV kv) && ti.ka == ka) = true
      ·rw [hc, cond_true] at hv
       have hcc := hc
       simp only [Bool.and_eq_true, beq_iff_eq] at hc
       obtain ⟨⟨⟨c1, rfl⟩, rfl⟩, c4⟩ := hc
       obtain ⟨⟨rfl⟩, _⟩ := Option.isSome_iff_exists.1 c1
       rw [c4] at K
       split at hv
       ·rename_i v hm
        have rk := rowVal_close hkey ry
        obtain ⟨b', ents, clk, g1, g2, g3, g3'⟩ := hs.heap.ob i _ hi
        rw [hb] at g1; cases g1
        obtain ⟨q, hq, hf⟩ := find_run K rk g3
        obtain ⟨zv, hz1, hz2⟩ := zero_rowVal henv h2 hz
        have got : ∃ c, (execOp a.eval o).run P w = .ok (.value (if ok then .tuple #[c, .bool (findKey ti.key.beq key es).isSome] else c)) w ∧ V.Rep w A η h v c ∧ v.ids = [] := by
         cases q with
         | none =>
           rw [hf.1] at hm ⊢
           simp only [Option.getD_none] at hm
           obtain ⟨e1, e2⟩ := rowVal_rep (η := η) (h := h) henv h2 hm (hz2 w A)
           exact ⟨zv, by simp only [execOp, ho, hxe, Instr.lookup, Sem.run_bind, run_underlying hkt, Result.andThen_ok, MapKept.run_getObj_map g2, Sem.run_pure, K.check w A key _ _ rk, hq, hz1, Option.isSome_none], e1, e2⟩
         | some q =>
           obtain ⟨j, val⟩ := q
           obtain ⟨i', x', k', e', _, f2, _, _, f5, _⟩ := hf
           rw [f2] at hm ⊢
           simp only [Option.getD_some] at hm
           obtain ⟨e1, e2⟩ := rowVal_rep (η := η) (h := h) henv h2 hm f5
           exact ⟨val, by simp only [execOp, ho, hxe, Instr.lookup, Sem.run_bind, run_underlying hkt, Result.andThen_ok, MapKept.run_getObj_map g2, Sem.run_pure, K.check w A key _ _ rk, hq, Option.isSome_some], e1, e2⟩
        obtain ⟨c, hrun, rc, ic⟩ := got
        cases ok with
        | true =>
          refine ⟨.tuple [v, .bool (findKey ti.key.beq key es).isSome], [], fun S kk => by simp only [effLookup, h1, hx, hy, hk, h2, hi, hkey, hz]; rw [hcc, cond_true]; simp only [hm, if_true], .pure hs hrun ?_ ?_⟩
          ·simp only [V.Rep, if_true]; exact ⟨_, rfl, by simp only [V.RepL]; exact ⟨c, _, rfl, rc, _, [], rfl, rfl, rfl⟩⟩
          ·simp [V.ids, V.idsL, ic]
        | false =>
          exact ⟨v, [], fun S kk => by simp only [effLookup, h1, hx, hy, hk, h2, hi, hkey, hz]; rw [hcc, cond_true]; simp only [hm, Bool.false_eq_true, if_false], .pure hs hrun rc (by simp [ic])⟩
       ·cases hv
      ·rw [Bool.eq_false_iff.2 hc, cond_false] at hv; cases hv
     ·cases hv
    ·rename_i jj kr ka vr va es key' z₀ hi
     split at hv
     ·rename_i key z hkey hz
      by_cases hc : ((Ks.eqp kr ti.key).isSome && (va == te.agg) && (ka == isAggV kv) && ti.ka == ka && (!ok && vr.cmp && vr.beq z₀ z)) = true
      ·rw [hc, cond_true] at hv
       have hcc := hc
       simp only [Bool.and_eq_true, beq_iff_eq, Bool.not_eq_true'] at hc
       obtain ⟨⟨⟨⟨c1, rfl⟩, rfl⟩, c4⟩, ⟨rfl, c5⟩, c6⟩ := hc
       obtain ⟨⟨rfl⟩, _⟩ := Option.isSome_iff_exists.1 c1
       have hzz := Ks.beq_eq vr c5 c6
       subst hzz
       rw [c4] at K
       split at hv
       ·rename_i v hm
        have rk := rowVal_close hkey ry
        obtain ⟨b', ents, clk, n, es', p, e, x', g1, g2, g3, g4, g5, g6, g7, g8, g9, g10⟩ := hs.heap.ob i _ hi
        rw [hb] at g1; cases g1
        obtain ⟨q, hq, hf⟩ := find_run K rk g5
        obtain ⟨zv, hz1, hz2⟩ := zero_rowVal henv h2 hz
        have hm' := hm
        rw [← g10 key] at hm'
        have got : ∃ c, (execOp a.eval o).run P w = .ok (.value c) w ∧ V.Rep w A η h v c ∧ v.ids = [] := by
         cases q with
         | none =>
           rw [hf.1] at hm'
           simp only [Option.getD_none] at hm'
           obtain ⟨e1, e2⟩ := rowVal_rep (η := η) (h := h) henv h2 hm' (hz2 w A)
           exact ⟨zv, by simp only [execOp, ho, hxe, Instr.lookup, Sem.run_bind, run_underlying hkt, Result.andThen_ok, MapKept.run_getObj_map g2, Sem.run_pure, K.check w A key _ _ rk, hq, hz1, Bool.false_eq_true, if_false], e1, e2⟩
         | some q =>
           obtain ⟨j, val⟩ := q
           obtain ⟨i', x', k', e', _, f2, _, _, f5, _⟩ := hf
           rw [f2] at hm'
           simp only [Option.getD_some] at hm'
           obtain ⟨e1, e2⟩ := rowVal_rep (η := η) (h := h) henv h2 hm' f5
           exact ⟨val, by simp only [execOp, ho, hxe, Instr.lookup, Sem.run_bind, run_underlying hkt, Result.andThen_ok, MapKept.run_getObj_map g2, Sem.run_pure, K.check w A key _ _ rk, hq, Bool.false_eq_true, if_false], e1, e2⟩
        obtain ⟨c, hrun, rc, ic⟩ := got
        exact ⟨v, [], fun S kk => by simp only [effLookup, h1, hx, hy, hk, h2, hi, hkey, hz]; rw [hcc, cond_true]; simp only [hm], .pure hs hrun rc (by simp [ic])⟩
       ·cases hv
      ·rw [Bool.eq_false_iff.2 hc, cond_false] at hv; cases hv
     ·cases hv
    ·cases hv
   ·
    simp only [V.Rep] at rx
    split at hv
    ·rename_i key v hkey hm
     by_cases hc : ti.ka = isAggV kv
     ·have hcc : (ti.ka == isAggV kv) = true := by simp [hc]
      rw [hcc, cond_true] at hv
      have rk := rowVal_close hkey ry
      rw [← hc] at rk
      obtain ⟨zv, hz1, hz2⟩ := henv.zero h2
      have rz : V.Rep w A η h v zv ∧ v.ids = [] := by
       have : ∃ cs : List Value, zeroL te.zero cs = true ∧ (if te.agg then zv = .agg cs.toArray else cs = [zv]) := by
        split at hz2
        ·rename_i ha; obtain ⟨cs, rfl, h3⟩ := hz2; exact ⟨cs.toList, h3, by rw [if_pos ha]⟩
        ·rename_i ha; exact ⟨[zv], hz2.2, by rw [if_neg ha]⟩
       obtain ⟨cs, h3, h4⟩ := this
       obtain ⟨r3, i3⟩ := zeroL_rep (w := w) (A := A) (η := η) (h := h) h3
       obtain ⟨d, e1, e2, e3⟩ := mk1_rep henv h2 hm r3
       have : d = zv := by
        split at h4
        ·rename_i ha; rw [if_pos ha] at e2; rw [h4, e2]
        ·rename_i ha; rw [if_neg ha] at e2; rw [h4] at e2; simpa using e2.symm
       subst this
       refine ⟨e1, ?_⟩
       rw [i3] at e3
       exact List.eq_nil_iff_forall_not_mem.2 fun i hi => by simpa using (e3 i).1 hi
      have hrun : (execOp a.eval o).run P w = .ok (.value (if ok then .tuple #[zv, .bool false] else zv)) w := by
       obtain ⟨d, hd⟩ := K.kind
       simp only [execOp, ho, rx, Instr.lookup, Sem.run_bind, run_underlying hkt, Result.andThen_ok, Sem.run_pure, K.check w A key _ _ rk, Instr.findKey, run_underlying hd, Instr.findNow, hz1]
      cases ok with
      | true =>
        refine ⟨.tuple [v, .bool false], [], fun S kk => by simp only [effLookup, h1, hx, hy, hk, h2, hkey, hm]; rw [hcc, cond_true]; simp only [if_true], .pure hs hrun ?_ ?_⟩
        ·simp only [V.Rep, if_true]; exact ⟨_, rfl, by simp only [V.RepL]; exact ⟨zv, _, rfl, rz.1, _, [], rfl, rfl, rfl⟩⟩
        ·simp [V.ids, V.idsL, rz.2]
      | false =>
        exact ⟨v, [], fun S kk => by simp only [effLookup, h1, hx, hy, hk, h2, hkey, hm]; rw [hcc, cond_true]; simp only [Bool.false_eq_true, if_false], .pure hs hrun rz.1 (by simp [rz.2])⟩
     ·have hcc : (ti.ka == isAggV kv) = false := by simp [hc]
      rw [hcc, cond_false] at hv; cases hv
    ·cases hv
   ·cases hv
  ·cases hv
 ·cases hv
theorem update_yields (henv : EnvOk P E) (hgl : E.gl = gl) (hs : SOk gl w A η fr h a.tmps) {o : Oper} {t : TypeId} {x y z : Operand} (ho : o.op = .mapUpdate t x y z ∨ o.op = .insert t x y z) (hv : effUpdate E fr h kk t x y z = some r) :
  Goal P gl m w A η h a o fun S kk => effUpdate E fr h kk t x y z := by
 unfold effUpdate at hv
 split at hv
 ·rename_i ti i kv vv h1 hx hy hz
  obtain ⟨rx, dx⟩ := ev_rep hgl hs hx
  obtain ⟨ry, dy⟩ := ev_rep hgl hs hy
  obtain ⟨rz, dz⟩ := ev_rep hgl hs hz
  simp only [V.Rep] at rx
  obtain ⟨b, hb, hxe⟩ := rx
  split at hv
  ·rename_i kr ka vr va es vv' is hk hi hpl
   obtain ⟨kt, hkt⟩ := tk_map henv h1 hk
   have K := henv.key t ti kt _ h1 hk hkt
   split at hv
   ·rename_i key val hkey hval
    by_cases hc : ((Ks.eqp kr ti.key).isSome && (ka == isAggV kv) && (va == isAggV vv') && ti.ka == ka) = true
    ·rw [hc, cond_true] at hv
     have hcc := hc
     simp only [Bool.and_eq_true, beq_iff_eq] at hc
     obtain ⟨⟨⟨c1, rfl⟩, rfl⟩, c4⟩ := hc
     obtain ⟨⟨rfl⟩, _⟩ := Option.isSome_iff_exists.1 c1
     rw [c4] at K
     obtain ⟨f1, f2, f3⟩ := V.plain_rep hs.heap vv vv' is hpl _ rz
     obtain ⟨A', st1, hA', _, hne⟩ := HStep.froze (m := m) hs.heap is fun j hj => (f3 j hj).2
     have rz' := f1 A' (fun b hb => (hA' b).2 (.inl hb)) (fun j hj b hb => (hA' b).2 (.inr ⟨j, hj, hb⟩))
     have ry' : RowVal w A' (isAggV kv) ti.key key (a.eval y) := RowVal.mono (fun b hb => ⟨(hA' b).2 (.inl hb), rfl⟩) (rowVal_close hkey ry)
     have rv' : RowVal w A' (isAggV vv') vr val (a.eval z) := rowVal_close hval rz'
     have hi' : ups (froze h is) h i = some (.map ti.key (isAggV kv) vr (isAggV vv') es) := by rw [hne i (fun r xs fz e => by rw [hi] at e; cases e)]; exact hi
     have hm : Mut (ups (froze h is) h) i := by unfold Mut; rw [hi']; trivial
     obtain ⟨b', ents, clk, g1, g2, g3, g4⟩ := st1.ok.ob i _ hi'
     rw [hb] at g1; cases g1
     have hlt : b < w.heap.size := (Array.getElem?_eq_some_iff.1 g2).1
     obtain ⟨q, hq, hf⟩ := find_run K ry' g3
     have run : ∃ ents' clk', (execOp a.eval o).run P w = .ok .skip { w with heap := w.heap.setIfInBounds b (.map ents' clk') } ∧ EntsRep w A' ti.key (isAggV kv) vr (isAggV vv') (setKey ti.key.beq key val es) ents'.toList ∧ Stamped ents'.toList clk' := by
      have ex : (execOp a.eval o).run P w = ((Instr.mapUpdate t (a.eval x) (a.eval y) (a.eval z)).run P w).andThen fun _ w' => .ok .skip w' := by
       rcases ho with e | e
       ·simp only [execOp, e, Sem.run_bind, Sem.run_pure]
       ·simp only [execOp, e, Sem.run_bind, Sem.run_pure]
      cases q with
      | none =>
        refine ⟨ents.push { key := a.eval y, val := a.eval z, born := clk }, clk + 1, ?_, ?_, by simpa using g4.push _ rfl⟩
        ·rw [ex]
         simp only [Instr.mapUpdate, Sem.run_bind, run_underlying hkt, Result.andThen_ok, hxe, MapKept.run_getObj_map g2, K.check w A' key _ _ ry', hq, MapKept.run_setObj_map _ g2]
        ·rw [hf.2]; simpa using EntsRep.push g3 ry' rv'
      | some q =>
        obtain ⟨j, val'⟩ := q
        obtain ⟨i', x', k', e', f6, f7, f8, f9, f10, f11, f12, f13, f14⟩ := hf
        rw [Nat.zero_add] at f6; subst f6
        refine ⟨ents.modify j fun e => { e with key := a.eval y, val := a.eval z }, clk, ?_, ?_, by simpa using g4.modify j (fun e => { e with key := a.eval y, val := a.eval z }) fun _ => rfl⟩
        ·have hbit := K.bits w A' key k' _ _ ry' f11 f12
         have hget : ents[j]? = some e' := by simpa using f8
         rw [ex]
         simp only [Instr.mapUpdate, Sem.run_bind, run_underlying hkt, Result.andThen_ok, hxe, MapKept.run_getObj_map g2, K.check w A' key _ _ ry', hq, hget, Option.map_some, Option.getD_some, Instr.keyThatStays, hbit, if_true, Sem.run_pure, MapKept.run_setObj_map _ g2]
        ·rw [f14]; simpa using EntsRep.set g3 j f13 (fun e => { e with key := a.eval y, val := a.eval z }) fun e₀ => ⟨ry', rv'⟩
     obtain ⟨ents', clk', hrun, hents, hstamp⟩ := run
     have st := HStep.turn (m := m) (o' := .map ti.key (isAggV kv) vr (isAggV vv') (setKey ti.key.beq key val es)) (x := .map ents' clk') st1.ok (.of g2 (by intro rec e; cases e)) (by intro c T fz e; cases e <;> rfl) hi' hm hb
      (fun u hu => by unfold OwnRep at hu ⊢; rw [ovr_same]; rw [hi'] at hu; exact hu) (by simp [Ob.ids]) (fun st => ⟨b, ents', clk', hb, heap_set hlt _, EntsRep.mono st.imm _ _ hents, hstamp⟩)
     refine ⟨.undef, (i, .map ti.key (isAggV kv) vr (isAggV vv') (setKey ti.key.beq key val es)) :: froze h is, fun S kk => by simp only [effUpdate, h1, hx, hy, hz, hk, hi, hpl, hkey, hval]; rw [hcc, cond_true], _, Go.undef, _, A', η, hrun, .inr ⟨rfl, rfl⟩, ?_, by simp [V.Rep], by simp [V.ids]⟩
     rw [ups_cons]
     exact st1.trans' st
    ·rw [Bool.eq_false_iff.2 hc, cond_false] at hv; cases hv
   ·cases hv
  ·cases hv
 ·cases hv
theorem clear_yields (hs : SOk gl w A η fr h a.tmps) {o : Oper} {c : Call} {t : TypeId} {i : Nat} {x : Value} {d : TypeDesc} (ho : o.op = .call c) (hc : c.callee = .builtin .clear) (hts : c.argTypes[0]? = some t) (hd : P.underlying t = some d)
  (hargs : c.args.map a.eval = #[x]) (hx : V.Rep w A η h (.map i) x) {kr : Ks} {ka : Bool} {vr : Ks} {va : Bool} {es : List (kr.Ty × vr.Ty)} (hi : h i = some (.map kr ka vr va es)) :
  Yields P gl m w A η h a o .undef [(i, .map kr ka vr va [])] := by
 simp only [V.Rep] at hx
 obtain ⟨b, hb, rfl⟩ := hx
 obtain ⟨b', ents, clk, g1, g2, g3, g4⟩ := hs.heap.ob i _ hi
 rw [hb] at g1; cases g1
 have hlt : b < w.heap.size := (Array.getElem?_eq_some_iff.1 g2).1
 have st := HStep.turn (m := m) (o' := .map kr ka vr va []) (x := .map #[] clk) hs.heap (.of g2 (by intro rec e; cases e)) (by intro c T fz e; cases e <;> rfl) hi (by unfold Mut; rw [hi]; trivial) hb
  (fun u hu => by unfold OwnRep at hu ⊢; rw [ovr_same]; rw [hi] at hu; exact hu) (by simp [Ob.ids]) (fun st => ⟨b, #[], clk, hb, heap_set hlt _, by simp [EntsRep], by simp [Stamped]⟩)
 refine ⟨.value (.tuple #[]), Go.undef, _, A, η, ?_, .inl rfl, by rw [ups_cons, ups_nil]; exact st, by simp [V.Rep], by simp [V.ids]⟩
 simp only [execOp, ho, resolve, hc, hargs, Sem.run_bind, Sem.run_pure, Result.andThen_ok, invoke, builtin, Builtin.clear_, hts, List.getElem?_toArray, List.getElem?_cons_zero, run_underlying hd]
 cases d <;> simp [MapKept.run_getObj_map g2, MapKept.run_setObj_map _ g2]
theorem minmax_yields (hs : SOk gl w A η fr h a.tmps) {o : Oper} {c : Call} {k : IntKind} {x y : Int} (ho : o.op = .call c) (hargs : c.args.map a.eval = #[.int k x, .int k y]) :
  (c.callee = .builtin .min → Yields P gl m w A η h a o (.int k (if y < x then y else x)) []) ∧ (c.callee = .builtin .max → Yields P gl m w A η h a o (.int k (if y > x then y else x)) []) := by
 refine ⟨fun hc => .pure hs (c := .int k (if y < x then y else x)) ?_ (by simp [V.Rep]) (by simp [V.ids]), fun hc => .pure hs (c := .int k (if y > x then y else x)) ?_ (by simp [V.Rep]) (by simp [V.ids])⟩
 ·simp [execOp, ho, resolve, hc, hargs, invoke, builtin, Builtin.min_, Builtin.min2]
 ·simp [execOp, ho, resolve, hc, hargs, invoke, builtin, Builtin.max_, Builtin.max2]
end ops
end Vm
namespace Vm
open Go
section ops
variable {P : Program} {E : Env} {gl : Gl} {m : Nat} {w : World} {A : ASet} {η : Nat → Option Nat} {fr : Nat → Option V} {h : Nat → Option Ob} {a : Act} {nx : Nat}
variable {R : Type} {kk : Kk R} {r : R}
theorem range_yields (henv : EnvOk P E) (hgl : E.gl = gl) (hs : SOk gl w A η fr h a.tmps) (hm : m ≤ nx) {o : Oper} {t : TypeId} {x : Operand} (ho : o.op = .range t x) (hv : effRange E fr h nx o.dst kk t x = some r) :
  Goal P gl m w A η h a o fun S kk => effRange E fr h nx o.dst kk t x := by
 unfold effRange at hv
 split at hv
 ·rename_i ti s h1 hx
  split at hv
  ·rename_i hk
   obtain ⟨d, hd, hn, hkk⟩ := new_some hv
   have hu : P.underlying t = some .string := by
    have := henv.tk h1
    unfold tkOk at this
    rw [hk] at this
    split at this <;> first | (cases this; done) | skip
    all_goals first | assumption | simp_all
   have rx := (ev_rep hgl hs hx).1
   simp only [V.Rep] at rx
   have st := HStep.new (gl := gl) (m := m) hs.heap (by intro c T fz e; cases e <;> rfl) (o := .iter s 0) (x := .stringIter ⟨s.toArray⟩ 0) hn (by omega) (by simp [Ob.ids]) fun st => ⟨w.heap.size, upd_same _ _ _, by simp⟩
   refine ⟨_, _, fun S kk => by simp only [effRange, h1, hx, hk]; exact hkk S kk, .value (.pointer (some ⟨w.heap.size, 0, none⟩)), .pointer (some ⟨w.heap.size, 0, none⟩), _, A, _, ?_, .inl rfl, by rw [ups_cons, ups_nil]; exact st, ref_rep, ?_⟩
   ·simp [execOp, ho, Instr.range, rx, run_underlying hu]
   ·intro j hj; simp only [V.ids, List.mem_singleton] at hj; subst hj; rw [ups_cons, ovr_same]; simp
  ·cases hv
 ·rename_i ti i h1 hx
  split at hv
  ·rename_i kr ka vr va es hk hi
   obtain ⟨d, hd, hn, hkk⟩ := new_some hv
   obtain ⟨kt, hu⟩ := tk_map henv h1 hk
   have rx := (ev_rep hgl hs hx).1
   simp only [V.Rep] at rx
   obtain ⟨b, hb, rx⟩ := rx
   obtain ⟨b', ents, clk, g1, g2, g3, g4⟩ := hs.heap.ob i _ hi
   rw [hb] at g1; cases g1
   have hne : i ≠ nx + 64 * d := fun e => by rw [e, hn] at hi; cases hi
   have st1 := HStep.lock (m := m) (c := nx + 64 * d) hs.heap hi hn
   have st2 := HStep.new (gl := gl) (m := m) st1.ok (by intro c T fz e; cases e <;> rfl) (o := .miter i kr ka vr va es none) (x := .mapIter (some b) clk #[] clk) (by rw [ovr_ne _ _ hne]; exact hn) (by omega) (by intro k hk; simp only [Ob.ids, List.mem_singleton] at hk; subst hk; rw [ovr_same]; simp) fun st =>
    ⟨w.heap.size, b, clk, clk, #[], upd_same _ _ _, by simp, by rw [upd_ne _ _ (Ne.symm hne)]; exact hb, fun _ => ⟨ents, by
      have := (Array.getElem?_eq_some_iff.1 g2).1
      simp only [Array.getElem?_push]; rw [if_neg (by omega)]; exact g2, g4.1, g4, by
      have e : ents.toList.filter (fun e => !(#[] : Array Nat).contains e.born) = ents.toList := List.filter_eq_self.2 (by simp)
      rw [e]
      exact EntsRep.mono st.imm _ _ g3, by simp⟩⟩
   refine ⟨_, _, fun S kk => by simp only [effRange, h1, hx, hk, hi]; exact hkk S kk, .value (.pointer (some ⟨w.heap.size, 0, none⟩)), .pointer (some ⟨w.heap.size, 0, none⟩), _, _, _, ?_, .inl rfl, by rw [hd, Option.getD_some, ups_cons, ups_cons, ups_nil]; exact st1.trans' st2, ref_rep, ?_⟩
   ·simp [execOp, ho, Instr.range, rx, run_underlying hu, MapKept.run_getObj_map g2]
   ·intro j hj; simp only [V.ids, List.mem_singleton] at hj; subst hj; rw [ups_cons, ovr_same]; simp
  ·cases hv
 ·cases hv
theorem rowV_rep {ag : Bool} {r : Ks} {x : r.Ty} {c : Value} (hr : RowVal w A ag r x c) : V.Rep w A η h (rowV ag r x) c := by
 unfold RowVal at hr
 cases ag with
 | true =>
   rw [if_pos rfl] at hr
   obtain ⟨cs, rfl, hl⟩ := hr
   simp only [rowV, cond_true, V.Rep]
   exact ⟨cs, rfl, RowVals.repL r x _ hl⟩
 | false =>
   rw [if_neg (by simp)] at hr
   have hrep := RowVals.repL (η := η) (h := h) r x _ hr.2
   simp only [rowV, cond_false]
   cases hc : r.cells x with
   | nil => rw [hc] at hrep; simp only [V.RepL] at hrep; cases hrep
   | cons u l =>
     rw [hc] at hrep
     simp only [V.RepL] at hrep
     obtain ⟨c', l', e, h2, _⟩ := hrep
     cases e
     exact h2
theorem leafs_ids : (r : Ks) → (x : r.Ty) → V.idsL (r.cells x) = [] := by
 have leaf : ∀ (k : K) (x : k.Ty), (k.leaf x).ids = [] := by intro k x; cases k <;> rfl
 intro r
 cases r with
 | nil => intro x; rfl
 | cons k r =>
   induction r using Ks.rec (motive_1 := fun _ => True) generalizing k with
   | nil => intro x; simp only [Ks.cells, V.idsL]; rw [leaf k x]; rfl
   | cons k' r' _ ih => intro x; simp only [Ks.cells, V.idsL]; rw [leaf k x.1, ih k' x.2]; rfl
   | _ => trivial
theorem rowV_ids (ag : Bool) (r : Ks) (x : r.Ty) : (rowV ag r x).ids = [] := by
 cases ag with
 | true => exact leafs_ids r x
 | false =>
   have := leafs_ids r x
   simp only [rowV, cond_false]
   cases hc : r.cells x with
   | nil => rfl
   | cons u l =>
     rw [hc] at this
     simp only [V.idsL, List.append_eq_nil_iff] at this
     exact this.1
theorem entry_yields (hgl : E.gl = gl) (hs : SOk gl w A η fr h a.tmps) {o : Oper} {x : Operand} (ho : o.op = .entry x) (hv : effEntry E fr h kk x = some r) :
  Goal P gl m w A η h a o fun S kk => effEntry E fr h kk x := by
 unfold effEntry at hv
 split at hv
 ·rename_i i k wd off hx
  split at hv
  ·rename_i mm kr ka vr va left e hi
   cases hc : decide (k = 0 ∧ off = 0) && lockB h mm i with
   | false => rw [hc, cond_false] at hv; cases hv
   | true =>
     rw [hc, cond_true] at hv
     have hc2 := hc
     simp only [Bool.and_eq_true, decide_eq_true_eq] at hc
     obtain ⟨⟨rfl, rfl⟩, hlk⟩ := hc
     have rx := (ev_rep hgl hs hx).1
     simp only [V.Rep] at rx
     obtain ⟨c, hc0, rx⟩ := rx
     obtain ⟨c', b, clk, since, seen, h1, h2, h3, hq⟩ := hs.heap.ob i _ hi
     rw [hc0] at h1; cases h1
     obtain ⟨ents, h4, h5, h6, h7, h8⟩ := hq (lockB_lock hlk)
     obtain ⟨stamp, ent, g1, g2, g3, g4⟩ := h8 e rfl
     have gr : (getObj c).run P w = .ok (.mapIter (some b) since seen clk) w := by simp [getObj, Sem.run, h2]
     refine ⟨_, _, fun S kk => by simp only [effEntry, hx, hi]; rw [hlk, show decide (True ∧ True) = true by simp]; rfl, .pure hs (c := .tuple #[ent.key, ent.val]) ?_ ?_ (by simp [V.ids, V.idsL, rowV_ids])⟩
     ·simp only [execOp, ho, rx, Instr.entry, Nat.zero_mul, Nat.add_zero, Sem.run_bind, gr, Result.andThen_ok, g1, MapKept.run_getObj_map h4, Sem.run_pure, g2]
      simp
     ·simp only [V.Rep, V.RepL]
      exact ⟨_, rfl, _, _, rfl, rowV_rep g3, _, _, rfl, rowV_rep g4, rfl⟩
  ·cases hv
 ·cases hv
theorem next_yields (hgl : E.gl = gl) (hs : SOk gl w A η fr h a.tmps) {o : Oper} {x : Operand} {text : Bool} (ho : o.op = .next x text) (hv : effNext E fr h kk x text = some r) :
  Goal P gl m w A η h a o fun S kk => effNext E fr h kk x text := by
 unfold effNext at hv
 split at hv
 ·rename_i i k wd off hx
  split at hv
  ·rename_i s pos hi
   cases hc : (text && decide (k = 0 ∧ off = 0)) with
   | false => rw [hc, cond_false] at hv; cases hv
   | true =>
     rw [hc, cond_true] at hv
     have hc' := hc
     simp only [Bool.and_eq_true, decide_eq_true_eq] at hc'
     obtain ⟨rfl, rfl, rfl⟩ := hc'
     have hcc : (true && decide (True ∧ True)) = true := by simp
     have rx := (ev_rep hgl hs hx).1
     simp only [V.Rep] at rx
     obtain ⟨b, hb, rx⟩ := rx
     obtain ⟨b', h1, h2⟩ := hs.heap.ob i _ hi
     rw [hb] at h1; cases h1
     have gr : (getObj b).run P w = .ok (.stringIter ⟨s.toArray⟩ pos) w := by simp [getObj, Sem.run, h2]
     have sr : ∀ o', (setObj b o').run P w = .ok () { w with heap := w.heap.setIfInBounds b o' } := fun o' => by simp [setObj, Sem.run, h2]
     have hsz : (⟨s.toArray⟩ : ByteArray).size = s.length := by simp [ByteArray.size]
     have hlt : b < w.heap.size := (Array.getElem?_eq_some_iff.1 h2).1
     by_cases hp : pos < s.length
     ·have st := HStep.turn (m := m) (o' := .iter s (pos + (Go.Utf8.decode ⟨s.toArray⟩ pos).2)) (x := .stringIter ⟨s.toArray⟩ (pos + (Go.Utf8.decode ⟨s.toArray⟩ pos).2)) hs.heap (.of h2 (by intro rec e; cases e)) (by intro c T fz e; cases e <;> rfl) hi (by unfold Mut; rw [hi]; trivial) hb
        (fun u hu => by unfold OwnRep at hu ⊢; rw [ovr_same]; rw [hi] at hu; exact hu) (by simp [Ob.ids]) (fun st => ⟨b, hb, heap_set hlt _⟩)
      refine ⟨_, _, fun S kk => by simp only [effNext, hx, hi]; rw [hcc, cond_true, decide_eq_true hp, cond_true], .value (.tuple #[.bool true, goInt pos, .int .i32 (Go.Utf8.decode ⟨s.toArray⟩ pos).1]), _, _, A, η, ?_, .inl rfl, by rw [ups_cons, ups_nil]; exact st, ?_, by simp [V.ids, V.idsL]⟩
      ·simp only [execOp, ho, rx, Instr.next, Nat.zero_mul, Nat.add_zero, Sem.run_bind, gr, Result.andThen_ok, hsz, if_pos hp, sr, Sem.run_pure]
      ·simp only [V.Rep, V.RepL]
       exact ⟨_, rfl, _, _, rfl, rfl, _, _, rfl, rfl, _, _, rfl, rfl, rfl⟩
     ·refine ⟨_, _, fun S kk => by simp only [effNext, hx, hi]; rw [hcc, cond_true, decide_eq_false hp, cond_false], .pure hs (c := .tuple #[.bool false]) ?_ ?_ (by simp [V.ids, V.idsL])⟩
      ·simp only [execOp, ho, rx, Instr.next, Nat.zero_mul, Nat.add_zero, Sem.run_bind, gr, Result.andThen_ok, hsz, if_neg hp, Sem.run_pure]
      ·simp only [V.Rep, V.RepL]
       exact ⟨_, rfl, _, _, rfl, rfl, rfl⟩
  ·cases hv
 ·cases hv
end ops
end Vm
namespace Vm
open Go
section
variable {R : Type} {E : Env} {fr : Fr} {h : Hp} {nx : Nat} {dst : Option Nat}
abbrev Kp := V × List (Nat × Ob)
abbrev one : Kk Kp := fun v up => some (v, up)
def thn (x : Option Kp) (kk : Kk R) : Option R := match x with
 | some p => kk p.1 p.2
 | none => none
def Env.Nat (E : Env) : Prop := ∀ (R : Type) f a os (kk : V → List Ob → Option R), E.Γ f a os kk = match E.Γ f a os (fun v o => some (v, o)) with
 | some p => kk p.1 p.2
 | none => none
theorem thn_some (v : V) (up : List (Nat × Ob)) (kk : Kk R) : thn (some (v, up)) kk = kk v up := rfl
theorem bif_thn {c : Bool} {x y : Option R} {x' y' : Option Kp} {kk : Kk R} (h : x = thn x' kk) (h' : y = thn y' kk) : (bif c then x else y) = thn (bif c then x' else y') kk := by
 cases c
 ·exact h'
 ·exact h
theorem new_thn (ob : Ob) (v : Nat → V) (up : List (Nat × Ob)) (kk : Kk R) : effNew h nx dst kk ob v up = thn (effNew h nx dst one ob v up) kk := by
 unfold effNew; repeat' (first | rfl | split)
theorem move_thn (kk : Kk R) (x : Operand) : effMove E fr kk x = thn (effMove E fr one x) kk := by
 unfold effMove; repeat' (first | rfl | split)
theorem pick_thn (kk : Kk R) (c x y : Operand) : effPick E fr kk c x y = thn (effPick E fr one c x y) kk := by
 unfold effPick; split
 ·exact bif_thn (move_thn _ _) (move_thn _ _)
 ·rfl
theorem alloc_thn (kk : Kk R) (t : TypeId) : effAlloc E h nx dst kk t = thn (effAlloc E h nx dst one t) kk := by
 unfold effAlloc; repeat' (first | rfl | exact new_thn _ _ _ _ | apply bif_thn | split)
theorem box_thn (kk : Kk R) (x : Operand) : effBox E fr h nx dst kk x = thn (effBox E fr h nx dst one x) kk := by
 unfold effBox; repeat' (first | rfl | exact new_thn _ _ _ _ | apply bif_thn | split)
theorem build_thn (kk : Kk R) (t : TypeId) (ps : Array (Nat × Operand)) : effBuild E fr kk t ps = thn (effBuild E fr one t ps) kk := by
 unfold effBuild; repeat' (first | rfl | split)
theorem buildSlice_thn (kk : Kk R) (t : TypeId) (n : Nat) (ps : Array (Nat × Operand)) : effBuildSlice E fr h nx dst kk t n ps = thn (effBuildSlice E fr h nx dst one t n ps) kk := by
 unfold effBuildSlice; repeat' (first | rfl | exact new_thn _ _ _ _ | apply bif_thn | split)
theorem loadAt_thn (n : Nat) (p : V) (k : List V → Option R) (k' : List V → Option Kp) (kk : Kk R) (hk : ∀ l, k l = thn (k' l) kk) : loadAt h n p k = thn (loadAt h n p k') kk := by
 unfold loadAt; repeat' (first | rfl | exact hk _ | apply bif_thn | split)
theorem load_thn (kk : Kk R) (t : TypeId) (x : Operand) : effLoad E fr h kk t x = thn (effLoad E fr h one t x) kk := by
 unfold effLoad; split
 ·exact loadAt_thn _ _ _ _ _ fun l => by split <;> rfl
 ·rfl
theorem storeAt_thn (p v : V) (k : List (Nat × Ob) → Option R) (k' : List (Nat × Ob) → Option Kp) (kk : Kk R) (hk : ∀ l, k l = thn (k' l) kk) : storeAt h p v k = thn (storeAt h p v k') kk := by
 unfold storeAt; repeat' (first | rfl | exact hk _ | apply bif_thn | split)
theorem store_thn (kk : Kk R) (t : TypeId) (x y : Operand) : effStore E fr h kk t x y = thn (effStore E fr h one t x y) kk := by
 unfold effStore; repeat' (first | rfl | exact storeAt_thn _ _ _ _ _ fun l => rfl | apply bif_thn | split)
theorem nil_thn (kk : Kk R) (x : Operand) : effNil E fr kk x = thn (effNil E fr one x) kk := by
 unfold effNil; repeat' (first | rfl | split)
theorem arith_thn (op : BinOp) (k : IntKind) (x y : Int) (f : V → Option R) (f' : V → Option Kp) (kk : Kk R) (hk : ∀ v, f v = thn (f' v) kk) : arith op k x y f = thn (arith op k x y f') kk := by
 unfold arith; repeat' (first | rfl | exact hk _ | apply bif_thn | split)
theorem isnil0_thn (tk : TK) (x y : V) (f : Bool → Option R) (f' : Bool → Option Kp) (kk : Kk R) (hk : ∀ v, f v = thn (f' v) kk) : isnil0 tk h x y f = thn (isnil0 tk h x y f') kk := by
 unfold isnil0; repeat' (first | rfl | exact hk _ | apply bif_thn | split)
theorem isnil_thn (tk : TK) (x y : V) (f : Bool → Option R) (f' : Bool → Option Kp) (kk : Kk R) (hk : ∀ v, f v = thn (f' v) kk) : isnil tk h x y f = thn (isnil tk h x y f') kk := by
 unfold isnil; exact bif_thn (hk _) (isnil0_thn _ _ _ _ _ _ hk)
theorem vbin_thn (ti : TI) (op : BinOp) (x y : V) (f : V → Option R) (f' : V → Option Kp) (kk : Kk R) (hk : ∀ v, f v = thn (f' v) kk) : vbin ti op h x y f = thn (vbin ti op h x y f') kk := by
 unfold vbin; repeat' (first | rfl | exact hk _ | exact arith_thn _ _ _ _ _ _ _ hk | exact isnil_thn _ _ _ _ _ _ fun _ => hk _ | apply bif_thn | split)
theorem bin_thn (kk : Kk R) (op : BinOp) (t : TypeId) (x y : Operand) : effBin E fr h kk op t x y = thn (effBin E fr h one op t x y) kk := by
 unfold effBin effNilnil; repeat' (first | rfl | exact vbin_thn _ _ _ _ _ _ _ fun _ => rfl | apply bif_thn | split)
theorem un_thn (kk : Kk R) (op : UnOp) (x : Operand) : effUn E fr kk op x = thn (effUn E fr one op x) kk := by
 unfold effUn; repeat' (first | rfl | split)
theorem convert_thn (kk : Kk R) (s t : TypeId) (x : Operand) : effConvert E fr kk s t x = thn (effConvert E fr one s t x) kk := by
 unfold effConvert; repeat' (first | rfl | split)
theorem func_thn (kk : Kk R) (fn : Fn) (x y : Array Operand) : effFunc E fr kk fn x y = thn (effFunc E fr one fn x y) kk := by
 unfold effFunc; repeat' (first | rfl | split)
theorem iface_thn (kk : Kk R) (t : TypeId) (x : Operand) : effIface E fr kk t x = thn (effIface E fr one t x) kk := by
 unfold effIface; repeat' (first | rfl | split)
theorem makeMap_thn (kk : Kk R) (t : TypeId) (x : Option Operand) : effMakeMap E h nx dst kk t x = thn (effMakeMap E h nx dst one t x) kk := by
 unfold effMakeMap; repeat' (first | rfl | exact new_thn _ _ _ _ | apply bif_thn | split)
theorem makeSlice_thn (kk : Kk R) (t : TypeId) (x y : Operand) : effMakeSlice E fr h nx dst kk t x y = thn (effMakeSlice E fr h nx dst one t x y) kk := by
 unfold effMakeSlice; repeat' (first | rfl | exact new_thn _ _ _ _ | apply bif_thn | split)
theorem bounds_thn (n : Nat) (lo hi mx : Option V) (f : Nat → Nat → Option R) (f' : Nat → Nat → Option Kp) (kk : Kk R) (hk : ∀ a b, f a b = thn (f' a b) kk) : bounds n lo hi mx f = thn (bounds n lo hi mx f') kk := by
 unfold bounds; repeat' (first | rfl | exact hk _ _ | apply bif_thn | split)
theorem slice_thn (kk : Kk R) (t : TypeId) (x : Operand) (lo hi mx : Option Operand) : effSlice E fr h kk t x lo hi mx = thn (effSlice E fr h one t x lo hi mx) kk := by
 unfold effSlice; repeat' (first | rfl | exact bounds_thn _ _ _ _ _ _ _ fun _ _ => rfl | apply bif_thn | split)
theorem fieldAddr_thn (kk : Kk R) (t : TypeId) (x : Operand) (f : Nat) : effFieldAddr E fr kk t x f = thn (effFieldAddr E fr one t x f) kk := by
 unfold effFieldAddr; repeat' (first | rfl | split)
theorem field_thn (kk : Kk R) (t : TypeId) (x : Operand) (f : Nat) : effField E fr kk t x f = thn (effField E fr one t x f) kk := by
 unfold effField; repeat' (first | rfl | split)
theorem indexAddr_thn (kk : Kk R) (t : TypeId) (x i : Operand) : effIndexAddr E fr h kk t x i = thn (effIndexAddr E fr h one t x i) kk := by
 unfold effIndexAddr; repeat' (first | rfl | apply bif_thn | split)
theorem index_thn (kk : Kk R) (t : TypeId) (x i : Operand) : effIndex E fr kk t x i = thn (effIndex E fr one t x i) kk := by
 unfold effIndex; repeat' (first | rfl | split)
theorem lookup_thn (kk : Kk R) (t : TypeId) (x i : Operand) (ok : Bool) : effLookup E fr h kk t x i ok = thn (effLookup E fr h one t x i ok) kk := by
 unfold effLookup; repeat' (first | rfl | apply bif_thn | split)
theorem update_thn (kk : Kk R) (t : TypeId) (x i v : Operand) : effUpdate E fr h kk t x i v = thn (effUpdate E fr h one t x i v) kk := by
 unfold effUpdate; repeat' (first | rfl | apply bif_thn | split)
theorem mapEntry_thn (kk : Kk R) (t : TypeId) (x i : Operand) : effMapEntry E fr h nx dst kk t x i = thn (effMapEntry E fr h nx dst one t x i) kk := by
 unfold effMapEntry; repeat' (first | rfl | exact new_thn _ _ _ _ | apply bif_thn | split)
theorem entryStore_thn (kk : Kk R) (x i v : Operand) : effEntryStore E fr h kk x i v = thn (effEntryStore E fr h one x i v) kk := by
 unfold effEntryStore; repeat' (first | rfl | apply bif_thn | split)
theorem extract_thn (kk : Kk R) (x : Operand) (i : Nat) : effExtract E fr kk x i = thn (effExtract E fr one x i) kk := by
 unfold effExtract; repeat' (first | rfl | split)
theorem range_thn (kk : Kk R) (t : TypeId) (x : Operand) : effRange E fr h nx dst kk t x = thn (effRange E fr h nx dst one t x) kk := by
 unfold effRange; repeat' (first | rfl | exact new_thn _ _ _ _ | split)
theorem next_thn (kk : Kk R) (x : Operand) (s : Bool) : effNext E fr h kk x s = thn (effNext E fr h one x s) kk := by
 unfold effNext; repeat' (first | rfl | apply bif_thn | split)
theorem entry_thn (kk : Kk R) (x : Operand) : effEntry E fr h kk x = thn (effEntry E fr h one x) kk := by
 unfold effEntry; repeat' (first | rfl | apply bif_thn | split)
theorem append_thn (kk : Kk R) (t : TypeId) (s x : V) : effAppend E h nx dst kk t s x = thn (effAppend E h nx dst one t s x) kk := by
 unfold effAppend; repeat' (first | rfl | exact new_thn _ _ _ _ | apply bif_thn | split)
theorem len_thn (kk : Kk R) (t : TypeId) (x : V) : effLen E h kk t x = thn (effLen E h one t x) kk := by
 unfold effLen; repeat' (first | rfl | split)
theorem clear_thn (kk : Kk R) (t : TypeId) (i l n w : Nat) : effClear E h kk t i l n w = thn (effClear E h one t i l n w) kk := by
 unfold effClear; repeat' (first | rfl | apply bif_thn | split)
theorem builtin_thn (kk : Kk R) (b : Builtin) (ts : Array TypeId) (vs : List V) : effBuiltin E h nx dst kk b ts vs = thn (effBuiltin E h nx dst one b ts vs) kk := by
 unfold effBuiltin; repeat' (first | rfl | exact len_thn _ _ _ | exact append_thn _ _ _ _ | exact clear_thn _ _ _ _ _ _ | split)
theorem vcall_thn (hE : E.Nat) (kk : Kk R) (base f : Nat) (args : List V) : vcall E h base f args kk = thn (vcall E h base f args one) kk := by
 unfold vcall
 cases lend E h f args with
 | none => rfl
 | some p =>
   obtain ⟨as, lent⟩ := p
   dsimp only
   cases order h (dedup (V.rootsL as) []) (V.idsL as) with
   | none => rfl
   | some L =>
     dsimp only
     cases obsOf h (posIn L) L with
     | none => rfl
     | some os =>
       dsimp only
       split
       ·rfl
       ·rw [hE R, hE Kp]
        split
        ·(try dsimp only); split <;> rfl
        ·rfl
theorem call_thn (hE : E.Nat) (kk : Kk R) (c : Call) : effCall E fr h nx dst kk c = thn (effCall E fr h nx dst one c) kk := by
 unfold effCall; repeat' (first | rfl | exact builtin_thn _ _ _ _ | exact vcall_thn hE _ _ _ _ | apply bif_thn | split)
theorem veff_thn (hE : E.Nat) (kk : Kk R) (o : Oper) : veff E fr h nx o kk = thn (veff E fr h nx o one) kk := by
 unfold veff
 split
 all_goals first
  | rfl | exact move_thn _ _ | exact pick_thn _ _ _ _ | exact alloc_thn _ _ | exact box_thn _ _ | exact build_thn _ _ _ | exact buildSlice_thn _ _ _ _ | exact load_thn _ _ _ | exact store_thn _ _ _ _
  | exact nil_thn _ _ | exact bin_thn _ _ _ _ _ | exact un_thn _ _ _ | exact convert_thn _ _ _ _ | exact func_thn _ _ _ _ | exact iface_thn _ _ _ | exact makeMap_thn _ _ _ | exact makeSlice_thn _ _ _ _
  | exact slice_thn _ _ _ _ _ _ | exact fieldAddr_thn _ _ _ _ | exact field_thn _ _ _ _ | exact indexAddr_thn _ _ _ _ | exact index_thn _ _ _ _ | exact lookup_thn _ _ _ _ _ | exact update_thn _ _ _ _ _
  | exact extract_thn _ _ _ | exact call_thn hE _ _ | exact range_thn _ _ _ | exact next_thn _ _ _ | exact entry_thn _ _ | exact mapEntry_thn _ _ _ _ | exact entryStore_thn _ _ _ _
end
end Vm
namespace Vm
open Go
section
variable {R : Type} {E : Env} {fr fr' : Fr} {h h' : Hp} {nx : Nat} {dst : Option Nat}
theorem evs_same : {l : List Operand} → (∀ x ∈ l, ev E fr x = ev E fr' x) → evs E fr l = evs E fr' l
 | [], _ => rfl
 | x :: l, hx => by simp only [evs]; rw [hx x (by simp), evs_same (l := l) fun y hy => hx y (by simp [hy])]
theorem evps_same : {l : List (Nat × Operand)} → (∀ x ∈ l.map (·.2), ev E fr x = ev E fr' x) → evps E fr l = evps E fr' l
 | [], _ => rfl
 | (i, x) :: l, hx => by simp only [evps]; rw [hx x (by simp), evps_same (l := l) fun y hy => hx y (by simp only [List.map_cons, List.mem_cons]; exact .inr hy)]
theorem evo_same {x : Option Operand} (hx : ∀ y ∈ x, ev E fr y = ev E fr' y) : evo E fr x = evo E fr' x := by
 cases x with
 | none => rfl
 | some y => simp only [evo]; rw [hx y rfl]
theorem vids_same : {l : List Operand} → (∀ x ∈ l, ev E fr x = ev E fr' x) → vids E fr l = vids E fr' l
 | [], _ => rfl
 | x :: l, hx => by simp only [vids]; rw [hx x (by simp), vids_same (l := l) fun y hy => hx y (by simp [hy])]
theorem veff_fr (o : Oper) (hx : ∀ x ∈ o.op.operands, ev E fr x = ev E fr' x) (kk : Kk R) : veff E fr h nx o kk = veff E fr' h nx o kk ∧ rds E fr h o = rds E fr' h o := by
 obtain ⟨d, op, type, pos, after, guard⟩ := o
 cases op <;> simp only [Go.Op.operands] at hx
 case move x => exact ⟨by simp only [veff, effMove]; rw [hx x (by simp)], rfl⟩
 case assign x => exact ⟨by simp only [veff, effMove]; rw [hx x (by simp)], rfl⟩
 case pick c a b => exact ⟨by simp only [veff, effPick, effMove]; rw [hx c (by simp), hx a (by simp), hx b (by simp)], rfl⟩
 case box t x => exact ⟨by simp only [veff, effBox]; rw [hx x (by simp)], rfl⟩
 case build t ps => exact ⟨by simp only [veff, effBuild]; rw [evps_same (l := ps.toList) fun x m => hx x (by simpa using m)], rfl⟩
 case buildSlice t n ps => exact ⟨by simp only [veff, effBuildSlice]; rw [evps_same (l := ps.toList) fun x m => hx x (by simpa using m)], by simp only [rds]; exact vids_same fun x m => hx x (by simpa using m)⟩
 case load t x => exact ⟨by simp only [veff, effLoad]; rw [hx x (by simp)], by simp only [rds]; exact vids_same fun y m => hx y (by simpa using m)⟩
 case store t x y => exact ⟨by simp only [veff, effStore]; rw [hx x (by simp), hx y (by simp)], by simp only [rds]; exact vids_same fun z m => hx z (by simpa using m)⟩
 case nilCheck x => exact ⟨by simp only [veff, effNil]; rw [hx x (by simp)], rfl⟩
 case binOp op t x y yt => exact ⟨by simp only [veff, effBin]; rw [hx x (by simp), hx y (by simp)], by simp only [rds]; exact vids_same fun z m => hx z (by simpa using m)⟩
 case unOp op t x => exact ⟨by simp only [veff, effUn]; rw [hx x (by simp)], rfl⟩
 case convert s t x => exact ⟨by simp only [veff, effConvert]; rw [hx x (by simp)], rfl⟩
 case makeFunc fn a b => exact ⟨by simp only [veff, effFunc]; rw [evs_same (l := a.toList) fun x m => hx x (by simp at m; simp [m]), evs_same (l := b.toList) fun x m => hx x (by simp at m; simp [m])], rfl⟩
 case makeInterface t x => exact ⟨by simp only [veff, effIface]; rw [hx x (by simp)], rfl⟩
 case makeSlice t x y => exact ⟨by simp only [veff, effMakeSlice]; rw [hx x (by simp), hx y (by simp)], rfl⟩
 case slice t x lo hi mx =>
  exact ⟨by
   simp only [veff, effSlice]
   rw [hx x (by simp), evo_same (x := lo) fun y m => hx y (by simp at m; simp [m]), evo_same (x := hi) fun y m => hx y (by simp at m; simp [m]), evo_same (x := mx) fun y m => hx y (by simp at m; simp [m])],
   by simp only [rds]; exact vids_same fun z m => hx z (by simp at m; simp [m])⟩
 case fieldAddr t x f => exact ⟨by simp only [veff, effFieldAddr]; rw [hx x (by simp)], rfl⟩
 case field t x f => exact ⟨by simp only [veff, effField]; rw [hx x (by simp)], rfl⟩
 case indexAddr t x i => exact ⟨by simp only [veff, effIndexAddr]; rw [hx x (by simp), hx i (by simp)], by simp only [rds]; exact vids_same fun z m => hx z (by simp at m; simp [m])⟩
 case index t x i => exact ⟨by simp only [veff, effIndex]; rw [hx x (by simp), hx i (by simp)], rfl⟩
 case lookup t x i ok => exact ⟨by simp only [veff, effLookup]; rw [hx x (by simp), hx i (by simp)], by simp only [rds]; exact vids_same fun z m => hx z (by simp at m; simp [m])⟩
 case mapUpdate t x i v => exact ⟨by simp only [veff, effUpdate]; rw [hx x (by simp), hx i (by simp), hx v (by simp)], by simp only [rds]; exact vids_same fun z m => hx z (by simp at m; rcases m with m | m <;> simp [m])⟩
 case insert t x i v => exact ⟨by simp only [veff, effUpdate]; rw [hx x (by simp), hx i (by simp), hx v (by simp)], by simp only [rds]; exact vids_same fun z m => hx z (by simp at m; rcases m with m | m <;> simp [m])⟩
 case mapEntry t x i => exact ⟨by simp only [veff, effMapEntry]; rw [hx x (by simp), hx i (by simp)], by simp only [rds]; exact vids_same fun z m => hx z (by simp at m; simp [m])⟩
 case entryStore t x i v => exact ⟨by simp only [veff, effEntryStore]; rw [hx x (by simp), hx i (by simp), hx v (by simp)], by simp only [rds]; exact vids_same fun z m => hx z (by simp at m; simp [m])⟩
 case extract x i => exact ⟨by simp only [veff, effExtract]; rw [hx x (by simp)], rfl⟩
 case call c =>
  have ha : ∀ x ∈ c.args.toList, ev E fr x = ev E fr' x := fun x m => hx x (by simp [Call.operands] at m ⊢; simp [m])
  have e1 := evs_same ha
  cases hc : c.callee with
  | builtin b => exact ⟨by simp only [veff, effCall, hc]; rw [e1], by simp only [rds, rdsCall, hc]; exact vids_same ha⟩
  | value f =>
    have e2 := hx f (by simp [Call.operands, hc])
    exact ⟨by simp only [veff, effCall, hc]; rw [e1, e2], by simp only [rds, rdsCall, hc]; rw [e1, e2]⟩
  | invoke x y => exact ⟨by simp only [veff, effCall, hc], by simp only [rds, rdsCall, hc]⟩
 case range t x => exact ⟨by simp only [veff, effRange]; rw [hx x (by simp)], by simp only [rds, vids]; rw [hx x (by simp)]⟩
 case entry x => exact ⟨by simp only [veff, effEntry]; rw [hx x (by simp)], by simp only [rds, vids]; rw [hx x (by simp)]⟩
 case next x s => exact ⟨by simp only [veff, effNext]; rw [hx x (by simp)], by simp only [rds, vids]; rw [hx x (by simp)]⟩
 all_goals exact ⟨rfl, rfl⟩
mutual
theorem V.plain_same : (v : V) → (∀ i ∈ v.ids, h i = h' i) → v.plain h = v.plain h'
 | .own i, hi => by simp only [V.plain]; rw [hi i (by simp [V.ids])]
 | .win i _ _ _, hi => by simp only [V.plain]; rw [hi i (by simp [V.ids])]
 | .agg l, hi => by simp only [V.plain]; rw [V.plainL_same l (by simpa [V.ids] using hi)]
 | .tuple l, hi => by simp only [V.plain]; rw [V.plainL_same l (by simpa [V.ids] using hi)]
 | .fn f a b, hi => by
   simp only [V.plain]
   rw [V.plainL_same a fun i m => hi i (by simp [V.ids, m]), V.plainL_same b fun i m => hi i (by simp [V.ids, m])]
 | .int _ _, _ => rfl
 | .bool _, _ => rfl
 | .str _, _ => rfl
 | .sl _ _, _ => rfl
 | .emp _ _, _ => rfl
 | .nilsl, _ => rfl
 | .nilp, _ => rfl
 | .nilfn, _ => rfl
 | .nilif, _ => rfl
 | .nilmap, _ => rfl
 | .undef, _ => rfl
 | .ref _ _ _ _, _ => rfl
 | .rod _ _ _, _ => rfl
 | .rodA _ _, _ => rfl
 | .map _, _ => rfl
 | .yld _, _ => rfl
 | .stamp _, _ => rfl
 | .iface _ _, _ => rfl
theorem V.plainL_same : (l : List V) → (∀ i ∈ V.idsL l, h i = h' i) → V.plainL h l = V.plainL h' l
 | [], _ => rfl
 | v :: l, hi => by
   simp only [V.plainL]
   rw [V.plain_same v fun i m => hi i (by simp [V.idsL, m]), V.plainL_same l fun i m => hi i (by simp [V.idsL, m])]
end
mutual
theorem V.plain_ids : (v v' : V) → (is : List Nat) → v.plain h = some (v', is) → ∀ i ∈ is, i ∈ v.ids
 | .own i, v', is, hp => by
   simp only [V.plain] at hp
   split at hp
   ·cases hp; simp [V.ids]
   ·cases hp
 | .win i _ _ _, v', is, hp => by
   simp only [V.plain] at hp
   split at hp
   ·split at hp
    ·cases hp; simp [V.ids]
    ·cases hp
   ·cases hp
 | .agg l, v', is, hp => by
   simp only [V.plain] at hp
   split at hp
   ·rename_i hl; cases hp; simpa [V.ids] using V.plainL_ids l _ _ hl
   ·cases hp
 | .tuple l, v', is, hp => by
   simp only [V.plain] at hp
   split at hp
   ·rename_i hl; cases hp; simpa [V.ids] using V.plainL_ids l _ _ hl
   ·cases hp
 | .fn f a b, v', is, hp => by
   simp only [V.plain] at hp
   split at hp
   ·rename_i ha hb
    cases hp
    intro i hi
    simp only [V.ids, List.mem_append] at hi ⊢
    exact hi.imp (V.plainL_ids a _ _ ha i) (V.plainL_ids b _ _ hb i)
   ·cases hp
 | .int _ _, _, _, hp => by simp only [V.plain, Option.some.injEq, Prod.mk.injEq] at hp; simp [← hp.2]
 | .bool _, _, _, hp => by simp only [V.plain, Option.some.injEq, Prod.mk.injEq] at hp; simp [← hp.2]
 | .str _, _, _, hp => by simp only [V.plain, Option.some.injEq, Prod.mk.injEq] at hp; simp [← hp.2]
 | .sl _ _, _, _, hp => by simp only [V.plain, Option.some.injEq, Prod.mk.injEq] at hp; simp [← hp.2]
 | .emp _ _, _, _, hp => by simp only [V.plain, Option.some.injEq, Prod.mk.injEq] at hp; simp [← hp.2]
 | .nilsl, _, _, hp => by simp only [V.plain, Option.some.injEq, Prod.mk.injEq] at hp; simp [← hp.2]
 | .nilp, _, _, hp => by simp only [V.plain, Option.some.injEq, Prod.mk.injEq] at hp; simp [← hp.2]
 | .nilfn, _, _, hp => by simp only [V.plain, Option.some.injEq, Prod.mk.injEq] at hp; simp [← hp.2]
 | .nilif, _, _, hp => by simp only [V.plain, Option.some.injEq, Prod.mk.injEq] at hp; simp [← hp.2]
 | .nilmap, _, _, hp => by simp only [V.plain, Option.some.injEq, Prod.mk.injEq] at hp; simp [← hp.2]
 | .undef, _, _, hp => by simp only [V.plain, Option.some.injEq, Prod.mk.injEq] at hp; simp [← hp.2]
 | .ref _ _ _ _, _, _, hp => by simp only [V.plain, Option.some.injEq, Prod.mk.injEq] at hp; simp [← hp.2]
 | .rod _ _ _, _, _, hp => by simp only [V.plain, Option.some.injEq, Prod.mk.injEq] at hp; simp [← hp.2]
 | .rodA _ _, _, _, hp => by simp only [V.plain, Option.some.injEq, Prod.mk.injEq] at hp; simp [← hp.2]
 | .map _, _, _, hp => by simp only [V.plain, Option.some.injEq, Prod.mk.injEq] at hp; simp [← hp.2]
 | .yld _, _, _, hp => by simp only [V.plain, Option.some.injEq, Prod.mk.injEq] at hp; simp [← hp.2]
 | .stamp _, _, _, hp => by simp only [V.plain, Option.some.injEq, Prod.mk.injEq] at hp; simp [← hp.2]
 | .iface _ _, _, _, hp => by simp only [V.plain, Option.some.injEq, Prod.mk.injEq] at hp; simp [← hp.2]
theorem V.plainL_ids : (l l' : List V) → (is : List Nat) → V.plainL h l = some (l', is) → ∀ i ∈ is, i ∈ V.idsL l
 | [], l', is, hp => by simp only [V.plainL, Option.some.injEq, Prod.mk.injEq] at hp; simp [← hp.2]
 | v :: l, l', is, hp => by
   simp only [V.plainL] at hp
   split at hp
   ·rename_i ha hb
    cases hp
    intro i hi
    simp only [V.idsL, List.mem_append] at hi ⊢
    exact hi.imp (V.plain_ids v _ _ ha i) (V.plainL_ids l _ _ hb i)
   ·cases hp
end
theorem froze_same : {is : List Nat} → (∀ i ∈ is, h i = h' i) → froze h is = froze h' is
 | [], _ => rfl
 | i :: is, hi => by simp only [froze]; rw [hi i (by simp), froze_same (is := is) fun j m => hi j (by simp [m])]
theorem reach_same : (n : Nat) → (todo seen L : List Nat) → reach h n todo seen = some L → (∀ i ∈ L, h i = h' i) → reach h' n todo seen = some L ∧ ∀ i ∈ seen, i ∈ L
 | 0, _, _, _, hr, _ => by simp [reach] at hr
 | n + 1, [], seen, L, hr, _ => by simp only [reach, Option.some.injEq] at hr; subst hr; exact ⟨by simp [reach], fun _ m => m⟩
 | n + 1, i :: todo, seen, L, hr, hL => by
   simp only [reach] at hr ⊢
   split at hr
   ·rename_i hc; rw [if_pos hc]; exact reach_same n todo seen L hr hL
   ·rename_i hc
    rw [if_neg hc]
    cases ho : h i with
    | none => rw [ho] at hr; cases hr
    | some o =>
      rw [ho] at hr
      have sub : ∀ j ∈ seen ++ [i], j ∈ L := by
       have : ∀ (n : Nat) (todo seen L : List Nat), reach h n todo seen = some L → ∀ j ∈ seen, j ∈ L := by
        intro n
        induction n with
        | zero => intro _ _ _ hr; simp [reach] at hr
        | succ n ih =>
          intro todo seen L hr j hj
          cases todo with
          | nil => simp only [reach, Option.some.injEq] at hr; exact hr ▸ hj
          | cons x todo =>
            simp only [reach] at hr
            split at hr
            ·exact ih _ _ _ hr j hj
            ·split at hr
             ·exact ih _ _ _ hr j (by simp [hj])
             ·cases hr
       exact this n _ _ L hr
      rw [← hL i (sub i (by simp)), ho]
      exact ⟨(reach_same n _ _ L hr hL).1, fun j m => sub j (by simp [m])⟩
theorem closedB_same {L : List Nat} (hL : ∀ i ∈ L, h i = h' i) : closedB h L = closedB h' L := by
 unfold closedB
 have : ∀ l : List Nat, (∀ i ∈ l, h i = h' i) → (l.all fun i => match h i with
  | some o => subB o.ids L
  | none => false) = l.all fun i => match h' i with
  | some o => subB o.ids L
  | none => false := by
  intro l
  induction l with
  | nil => intro _; rfl
  | cons i l ih => intro hl; simp only [List.all_cons]; rw [hl i (by simp), ih fun j m => hl j (by simp [m])]
 exact this L hL
theorem order_same {first rest L : List Nat} (ho : order h first rest = some L) (hL : ∀ i ∈ L, h i = h' i) : order h' first rest = some L := by
 unfold order at ho ⊢
 cases hr : reach h 10000 (first ++ rest) [] with
 | none => rw [hr] at ho; cases ho
 | some L' =>
   rw [hr] at ho
   dsimp only at ho
   split at ho
   ·rename_i hc
    cases ho
    rw [(reach_same _ _ _ _ hr hL).1]
    dsimp only
    rw [← closedB_same hL, if_pos hc]
   ·cases ho
theorem obsOf_same {ρ : Nat → Nat} : {L : List Nat} → (∀ i ∈ L, h i = h' i) → obsOf h ρ L = obsOf h' ρ L
 | [], _ => rfl
 | i :: L, hL => by simp only [obsOf]; rw [hL i (by simp), obsOf_same (L := L) fun j m => hL j (by simp [m])]
variable {v : V} {up : List (Nat × Ob)}
theorem new_same {ob : Ob} {f : Nat → V} {up' : List (Nat × Ob)} (hv : effNew h nx dst one ob f up' = some (v, up)) (hh : ∀ i ∈ up.map (·.1), h i = h' i) : effNew h' nx dst one ob f up' = some (v, up) := by
 unfold effNew at hv ⊢
 split at hv
 ·rename_i d
  split at hv
  ·rename_i hn
   simp only [Option.some.injEq, Prod.mk.injEq] at hv
   rw [← hh (nx + 64 * d) (by rw [← hv.2]; simp), hn]
   simp only [one, hv.1, hv.2]
  ·cases hv
 ·cases hv
theorem loadAt_same {S : Type} {n : Nat} {p : V} {k : List V → Option S} (hp : ∀ i ∈ p.ids, h i = h' i) : loadAt h n p k = loadAt h' n p k := by
 cases p <;> simp only [loadAt]
 rw [hp _ (by simp [V.ids])]
theorem storeAt_same {S : Type} {p x : V} {k : List (Nat × Ob) → Option S} (hp : ∀ i ∈ p.ids, h i = h' i) (hx : ∀ i ∈ x.ids, h i = h' i) : storeAt h p x k = storeAt h' p x k := by
 cases p <;> simp only [storeAt]
 rename_i i k' w off
 rw [hp i (by simp [V.ids]), V.plain_same x hx]
 cases hpl : x.plain h' with
 | none => rfl
 | some q =>
   obtain ⟨x', is⟩ := q
   have : froze h is = froze h' is := froze_same fun j m => hx j (V.plain_ids x x' is hpl j m)
   simp only [this]
theorem setRows_same {r : Ks} : (ps : List (Nat × V)) → (xs : List r.Ty) → (∀ i ∈ V.idsL (ps.map (·.2)), h i = h' i) → setRows h r xs ps = setRows h' r xs ps
 | [], _, _ => rfl
 | (i, x) :: ps, xs, hx => by
   simp only [setRows]
   rw [V.plain_same x fun j m => hx j (by simp [V.idsL, m])]
   have := fun ys : List r.Ty => setRows_same ps ys fun j m => hx j (by simp [V.idsL, m])
   simp only [this]
theorem setRows_ids {r : Ks} : (ps : List (Nat × V)) → (xs ys : List r.Ty) → (is : List Nat) → setRows h r xs ps = some (ys, is) → ∀ i ∈ is, i ∈ V.idsL (ps.map (·.2))
 | [], _, _, is, hs => by simp only [setRows, Option.some.injEq, Prod.mk.injEq] at hs; simp [← hs.2]
 | (i, x) :: ps, xs, ys, is, hs => by
   simp only [setRows] at hs
   split at hs
   ·cases hs
   ·rename_i x' is' hx
    split at hs
    ·cases hs
    ·split at hs
     ·split at hs
      ·rename_i ys' js' hr
       cases hs
       intro j hj
       simp only [List.map_cons, V.idsL, List.mem_append] at hj ⊢
       exact hj.imp (V.plain_ids x x' is' hx j) (setRows_ids ps _ _ _ hr j)
      ·cases hs
     ·cases hs
theorem evps_ids {l : List (Nat × Operand)} {ps : List (Nat × V)} (hq : evps E fr l = some ps) : vids E fr (l.map (·.2)) = V.idsL (ps.map (·.2)) := by
 induction l generalizing ps with
 | nil => simp only [evps, Option.some.injEq] at hq; subst hq; rfl
 | cons x l ih =>
   obtain ⟨i, x⟩ := x
   simp only [evps] at hq
   split at hq
   ·rename_i v vs h1 h2
    cases hq
    simp only [List.map_cons, vids, h1, V.idsL, ih h2]
   ·cases hq
theorem evs_ids {l : List Operand} {vs : List V} (hq : evs E fr l = some vs) : vids E fr l = V.idsL vs := by
 induction l generalizing vs with
 | nil => simp only [evs, Option.some.injEq] at hq; subst hq; rfl
 | cons x l ih =>
   simp only [evs] at hq
   split at hq
   ·rename_i v vs h1 h2
    cases hq
    simp only [vids, h1, V.idsL, ih h2]
   ·cases hq
theorem isnil0_same {S : Type} {tk : TK} {x y : V} {k : Bool → Option S} (hx : ∀ i ∈ x.ids, h i = h' i) (hy : ∀ i ∈ y.ids, h i = h' i) : isnil0 tk h x y k = isnil0 tk h' x y k := by
 cases x <;> cases y <;> cases tk <;> first
  | rfl
  | (simp only [V.ids, List.mem_singleton, forall_eq] at hx hy; simp only [isnil0, hx, hy])
  | (simp only [V.ids, List.mem_singleton, forall_eq] at hx; simp only [isnil0, hx])
  | (simp only [V.ids, List.mem_singleton, forall_eq] at hy; simp only [isnil0, hy])
theorem isnil_same {S : Type} {tk : TK} {x y : V} {k : Bool → Option S} (hx : ∀ i ∈ x.ids, h i = h' i) (hy : ∀ i ∈ y.ids, h i = h' i) : isnil tk h x y k = isnil tk h' x y k := by
 unfold isnil; rw [isnil0_same hx hy]
theorem vbin_same {S : Type} {ti : TI} {op : BinOp} {x y : V} {k : V → Option S} (hx : ∀ i ∈ x.ids, h i = h' i) (hy : ∀ i ∈ y.ids, h i = h' i) : vbin ti op h x y k = vbin ti op h' x y k := by
 have e : ∀ k : Bool → Option S, isnil ti.tk h x y k = isnil ti.tk h' x y k := fun k => isnil_same hx hy
 unfold vbin
 simp only [e]
theorem rowsOf_same {r : Ks} {x : V} (hx : ∀ i ∈ x.ids, h i = h' i) : rowsOf h r x = rowsOf h' r x := by
 unfold rowsOf
 congr 1
 cases x <;> simp only [rowsOf0]
 rw [hx _ (by simp [V.ids])]
theorem append_same {t : TypeId} {s x : V} (hs : ∀ i ∈ s.ids, h i = h' i) (hx : ∀ i ∈ x.ids, h i = h' i) (hv : effAppend E h nx dst one t s x = some (v, up)) (hh : ∀ i ∈ up.map (·.1), h i = h' i) :
  effAppend E h' nx dst one t s x = some (v, up) := by
 unfold effAppend at hv ⊢
 have er : ∀ r, rowsOf h' r x = rowsOf h r x := fun r => (rowsOf_same hx).symm
 split at hv
 ·rename_i ti h1
  split at hv
  ·rename_i te hk h2
   split at hv
   ·cases hv
   ·rename_i ys hys
    split at hv
    ·rename_i hc
     split at hv
     ·simp only [h1, hk, h2, er, hys, if_pos hc]
      by_cases hb : ys.length * te.bytes ≤ bytesMost
      ·rw [decide_eq_true hb, cond_true] at hv ⊢; exact new_same hv hh
      ·rw [decide_eq_false hb] at hv; cases hv
     ·rename_i r₀ z
      simp only [h1, hk, h2, er, hys, if_pos hc]
      cases z with
      | true =>
        rw [cond_true] at hv ⊢
        by_cases hb : ys.length * te.bytes ≤ bytesMost
        ·rw [decide_eq_true hb, cond_true] at hv ⊢; exact new_same hv hh
        ·rw [decide_eq_false hb] at hv; cases hv
      | false => rw [cond_false] at hv ⊢; exact hv
     ·rename_i i
      split at hv
      ·rename_i r₀ xs hi
       split at hv
       ·rename_i e he
        simp only [h1, hk, h2, er, hys, if_pos hc, ← hs i (by simp [V.ids]), hi, he]
        by_cases hb : (xs.length + ys.length) * te.bytes ≤ bytesMost
        ·rw [decide_eq_true hb, cond_true] at hv ⊢; exact new_same hv hh
        ·rw [decide_eq_false hb] at hv; cases hv
       ·cases hv
      ·cases hv
     ·cases hv
    ·cases hv
  ·cases hv
 ·cases hv
theorem zip_drop {α : Type} : (l : List α) → (k n : Nat) → (zipFrom k l).drop n = zipFrom (k + n) (l.drop n)
 | [], k, n => by simp [zipFrom]
 | x :: l, k, 0 => by simp
 | x :: l, k, n + 1 => by simp only [zipFrom, List.drop_succ_cons]; rw [zip_drop l (k + 1) n, show k + 1 + n = k + (n + 1) by omega]
theorem vcall_same {base f : Nat} {args : List V} (hL : ∀ as lent L, lend E h f args = some (as, lent) → order h (dedup (V.rootsL as) []) (V.idsL as) = some L → ∀ i ∈ lent ++ L, h i = h' i)
  (hla : lend E h f args = lend E h' f args) (hv : vcall E h base f args one = some (v, up)) (hh : ∀ i ∈ up.map (·.1), h i = h' i) (hE : E.Nat) : vcall E h' base f args one = some (v, up) := by
 unfold vcall at hv ⊢
 rw [← hla]
 cases hl : lend E h f args with
 | none => rw [hl] at hv; cases hv
 | some p =>
   obtain ⟨as, lent⟩ := p
   rw [hl] at hv
   dsimp only at hv ⊢
   cases ho : order h (dedup (V.rootsL as) []) (V.idsL as) with
   | none => rw [ho] at hv; cases hv
   | some L =>
     rw [ho] at hv
     have hLL := hL as lent L hl ho
     rw [order_same ho fun i m => hLL i (by simp [m])]
     dsimp only at hv ⊢
     rw [← obsOf_same (h := h) (h' := h') fun i m => hLL i (by simp [m])]
     cases hos : obsOf h (posIn L) L with
     | none => rw [hos] at hv; cases hv
     | some os =>
       rw [hos] at hv
       dsimp only at hv ⊢
       split at hv
       ·cases hv
       ·rename_i hc
        rw [if_neg hc]
        rw [hE Kp] at hv ⊢
        cases hΓ : E.Γ f (V.renL (posIn L) as) os (fun v o => some (v, o)) with
        | none => rw [hΓ] at hv; cases hv
        | some q =>
          obtain ⟨u, os'⟩ := q
          rw [hΓ] at hv
          dsimp only at hv ⊢
          rw [← froze_same (h := h) (h' := h') (is := lent) fun i m => hLL i (by simp [m])]
          split at hv
          ·cases hv
          ·rename_i hc2
           generalize hn : (bif E.full f then L.length else (dedup (V.rootsL as) []).length) = n at hv hc2 ⊢
           have e : (List.range os'.length).all (fun j => decide (j < n) || (h' (base + j)).isNone) = (List.range os'.length).all (fun j => decide (j < n) || (h (base + j)).isNone) := by
            have : ∀ l : List Nat, (∀ j ∈ l, j < os'.length) → l.all (fun j => decide (j < n) || (h' (base + j)).isNone) = l.all (fun j => decide (j < n) || (h (base + j)).isNone) := by
             intro l
             induction l with
             | nil => intro _; rfl
             | cons j l ih =>
               intro hl
               simp only [List.all_cons]
               rw [ih fun x m => hl x (by simp [m])]
               by_cases hj : j < n
               ·simp [hj]
               ·have : h (base + j) = h' (base + j) := by
                  refine hh _ ?_
                  simp only [one, Option.some.injEq, Prod.mk.injEq] at hv
                  rw [← hv.2]
                  simp only [List.map_append, List.map_map, List.mem_append, List.mem_map]
                  left; left
                  have zf : ∀ (l : List Ob) (n j : Nat), n ≤ j → j < n + l.length → ∃ o, (j, o) ∈ zipFrom n l := by
                   intro l
                   induction l with
                   | nil => intro n j h1 h2; simp at h2; omega
                   | cons o l ih =>
                     intro n j h1 h2
                     by_cases hnj : n = j
                     ·subst hnj; exact ⟨o, by simp [zipFrom]⟩
                     ·obtain ⟨o', ho'⟩ := ih (n + 1) j (by omega) (by simp at h2; omega)
                      exact ⟨o', by simp [zipFrom, ho']⟩
                  have hjl := hl j (by simp)
                  cases hob : E.ob f with
                  | false =>
                    obtain ⟨o, ho⟩ := zf os' 0 j (Nat.zero_le _) (by omega)
                    exact ⟨(j, o), ho, by simp [hj]⟩
                  | true =>
                    obtain ⟨o, ho⟩ := zf (os'.drop n) n j (by omega) (by simp; omega)
                    exact ⟨(j, o), by rw [cond_true, zip_drop, Nat.zero_add]; exact ho, by simp [hj]⟩
                rw [this]
            exact this _ fun j m => by simpa using m
           rw [e, if_neg hc2]
           exact hv
end
end Vm
namespace Vm
open Go
section
variable {R : Type} {E : Env} {fr fr' : Fr} {h h' : Hp} {nx : Nat} {dst : Option Nat} {v : V} {up : List (Nat × Ob)}
theorem one_bif {c : Bool} {x y : Option Kp} (hc : (bif c then x else none) = some (v, up)) (hx : x = some (v, up) → y = some (v, up)) : (bif c then y else none) = some (v, up) := by
 cases c
 ·cases hc
 ·exact hx hc
theorem vids_mem {l : List Operand} {x : Operand} (hx : x ∈ l) {u : V} (hu : ev E fr x = some u) {i : Nat} (hi : i ∈ u.ids) : i ∈ vids E fr l := by
 induction l with
 | nil => cases hx
 | cons y l ih =>
   simp only [vids]
   rcases List.mem_cons.1 hx with rfl | hx
   ·rw [hu]; simp [hi]
   ·split
    ·simp [ih hx]
    ·exact ih hx
theorem plain_reads (v v' : V) (is : List Nat) (hp : v.plain h = some (v', is)) (hi : ∀ i ∈ is, h i = h' i) : v.plain h' = some (v', is) := by
 have go : (∀ (v v' : V) (is : List Nat), v.plain h = some (v', is) → (∀ i ∈ is, h i = h' i) → v.plain h' = some (v', is)) := by
  intro v
  refine V.rec (motive_1 := fun v => ∀ (v' : V) (is : List Nat), v.plain h = some (v', is) → (∀ i ∈ is, h i = h' i) → v.plain h' = some (v', is))
   (motive_2 := fun l => ∀ (l' : List V) (is : List Nat), V.plainL h l = some (l', is) → (∀ i ∈ is, h i = h' i) → V.plainL h' l = some (l', is))
   ?_ ?_ ?_ ?_ ?_ ?_ ?_ ?_ ?_ ?_ ?_ ?_ ?_ ?_ ?_ ?_ ?_ ?_ ?_ ?_ ?_ ?_ ?_ ?_ ?_ v
  all_goals first
   | (intros; simp only [V.plain] at *; assumption)
   | skip
  ·
   intro l ih v' is hp hi
   simp only [V.plain] at hp ⊢
   split at hp
   ·rename_i l' is' hl; cases hp; rw [ih _ _ hl hi]
   ·cases hp
  ·intro l ih v' is hp hi
   simp only [V.plain] at hp ⊢
   split at hp
   ·rename_i l' is' hl; cases hp; rw [ih _ _ hl hi]
   ·cases hp
  ·intro i v' is hp hi
   simp only [V.plain] at hp ⊢
   split at hp
   ·rename_i r xs fz ho
    cases hp
    rw [← hi i (by simp), ho]
   ·cases hp
  ·intro i w₀ l n v' is hp hi
   simp only [V.plain] at hp ⊢
   split at hp
   ·rename_i r xs fz ho
    split at hp
    ·rename_i hc
     cases hp
     rw [← hi i (by simp), ho]
     simp only [if_pos hc]
    ·cases hp
   ·cases hp
  ·intro f a b iha ihb v' is hp hi
   simp only [V.plain] at hp ⊢
   split at hp
   ·rename_i a' is' b' js' ha hb
    cases hp
    rw [iha _ _ ha fun i m => hi i (by simp [m]), ihb _ _ hb fun i m => hi i (by simp [m])]
   ·cases hp
  ·intro l' is hp hi; simp only [V.plainL] at hp ⊢; exact hp
  ·intro v l ihv ihl l' is hp hi
   simp only [V.plainL] at hp ⊢
   split at hp
   ·rename_i v' is' l'' js' hv hl
    cases hp
    rw [ihv _ _ hv fun i m => hi i (by simp [m]), ihl _ _ hl fun i m => hi i (by simp [m])]
   ·cases hp
 exact go v v' is hp hi
theorem lend_reads {f : Nat} {args as : List V} {lent : List Nat} (hl : lend E h f args = some (as, lent)) (hi : ∀ i ∈ lent, h i = h' i) : lend E h' f args = some (as, lent) := by
 unfold lend at hl ⊢
 split at hl
 ·rename_i hc; rw [if_pos hc]; exact hl
 ·rename_i hc
  rw [if_neg hc]
  have e1 : (V.agg args).plain h = some (.agg as, lent) := by simp only [V.plain, hl]
  have e2 := plain_reads _ _ _ e1 hi
  simp only [V.plain] at e2
  split at e2
  ·rename_i hh; simp only [Option.some.injEq, Prod.mk.injEq, V.agg.injEq] at e2; rw [hh, e2.1, e2.2]
  ·cases e2
theorem veff_hp (hE : E.Nat) (o : Oper) (hv : veff E fr h nx o one = some (v, up)) (hr : ∀ i ∈ rds E fr h o, h i = h' i) (hh : ∀ i ∈ up.map (·.1), h i = h' i) : veff E fr h' nx o one = some (v, up) := by
 obtain ⟨d, op, type, pos, after, guard⟩ := o
 cases op
 case alloc t =>
  simp only [veff, effAlloc] at hv ⊢
  split at hv
  ·exact new_same hv hh
  ·cases hv
 case box t x =>
  simp only [veff, effBox] at hv ⊢
  split at hv
  ·exact new_same hv hh
  ·cases hv
 case buildSlice t n ps =>
  simp only [veff, effBuildSlice] at hv ⊢
  split at hv
  ·rename_i ti qs h1 hq
   split at hv
   ·rename_i te hk h2
    split at hv
    ·cases hv
    ·rename_i z hz
     split at hv
     ·rename_i xs is hset
      have hr' : ∀ i ∈ V.idsL (qs.map (·.2)), h i = h' i := fun i m => hr i (by simp only [rds]; rw [evps_ids hq]; exact m)
      have e1 := setRows_same (h := h) (h' := h') (r := te.row) qs (List.replicate n z) hr'
      have e2 : froze h is = froze h' is := froze_same fun i m => hr' i (setRows_ids qs _ _ _ hset i m)
      (try simp only [h1, hq, hk, h2, hz, ← e1, hset, ← e2])
      exact one_bif hv fun hx => new_same hx hh
     ·cases hv
   ·cases hv
  ·cases hv
 case load t x =>
  simp only [veff, effLoad] at hv ⊢
  split at hv
  ·rename_i ti p h1 hx
   (try simp only [h1, hx])
   rw [← loadAt_same (h := h) (h' := h') fun i m => hr i (by simp only [rds]; exact vids_mem (by simp) hx m)]
   exact hv
  ·cases hv
 case store t x y =>
  simp only [veff, effStore] at hv ⊢
  split at hv
  ·rename_i ti p u h1 hx hy
   (try simp only [h1, hx, hy])
   rw [← storeAt_same (h := h) (h' := h') (fun i m => hr i (by simp only [rds]; exact vids_mem (by simp) hx m)) (fun i m => hr i (by simp only [rds]; exact vids_mem (by simp) hy m))]
   exact hv
  ·cases hv
 case binOp op t x y yt =>
  simp only [veff, effBin] at hv ⊢
  split at hv
  ·rename_i ti p u h1 hx hy
   (try simp only [h1, hx, hy])
   cases hn : nilnil ti p u y with
   | true => rw [hn, cond_true] at hv; rw [cond_true]; exact hv
   | false =>
   rw [hn, cond_false] at hv
   rw [cond_false, ← vbin_same (h := h) (h' := h') (fun i m => hr i (by simp only [rds]; exact vids_mem (by simp) hx m)) (fun i m => hr i (by simp only [rds]; exact vids_mem (by simp) hy m))]
   exact hv
  ·cases hv
 case makeMap t x =>
  simp only [veff, effMakeMap] at hv ⊢
  split at hv
  ·split at hv
   ·exact new_same hv hh
   ·cases hv
  ·cases hv
 case makeSlice t x y =>
  simp only [veff, effMakeSlice] at hv ⊢
  split at hv
  ·split at hv
   ·split at hv
    ·exact one_bif hv fun hx => new_same hx hh
    ·cases hv
   ·cases hv
  ·cases hv
 case slice t x lo hi mx =>
  simp only [veff, effSlice] at hv ⊢
  split at hv
  ·rename_i h1 h2 h3 h4 h5; (try simp only [h1, h2, h3, h4, h5]); exact hv
  ·rename_i h1 h2 h3 h4 h5; (try simp only [h1, h2, h3, h4, h5]); exact hv
  ·rename_i h1 h2 h3 h4 h5; (try simp only [h1, h2, h3, h4, h5]); exact hv
  ·rename_i h1 h2 h3 h4 h5; (try simp only [h1, h2, h3, h4, h5]); exact hv
  ·rename_i i lo' hi' mx' h1 h2 h3 h4 h5
   (try simp only [h1, h2, h3, h4, h5])
   rw [← hr i (by simp only [rds]; exact vids_mem (by simp) h2 (by simp [V.ids]))]
   exact hv
  ·cases hv
 case indexAddr t x i =>
  simp only [veff, effIndexAddr] at hv ⊢
  split at hv
  ·rename_i ti p k u h1 hx hy
   (try simp only [h1, hx, hy])
   split at hv
   ·rename_i te h2
    (try simp only [h2])
    split at hv
    ·rename_i hk; (try simp only [hk]); exact hv
    ·rename_i hk; (try simp only [hk]); exact hv
    ·rename_i j hk
     (try simp only [hk])
     rw [← hr j (by simp only [rds]; exact vids_mem (by simp) hx (by simp [V.ids]))]
     exact hv
    ·rename_i hk; (try simp only [hk]); exact hv
    ·rename_i hk; (try simp only [hk]); exact hv
    ·cases hv
   ·cases hv
  ·cases hv
 case lookup t x i ok =>
  simp only [veff, effLookup] at hv ⊢
  split at hv
  ·rename_i ti mv kv h1 hx hy
   (try simp only [h1, hx, hy])
   split at hv
   ·rename_i te hk h2
    (try simp only [hk, h2])
    split at hv
    ·rename_i j
     simp only [← hr j (by simp only [rds]; exact vids_mem (by simp) hx (by simp [V.ids]))]
     exact hv
    ·exact hv
    ·cases hv
   ·cases hv
  ·cases hv
 case mapUpdate t x i y =>
  simp only [veff, effUpdate] at hv ⊢
  split at hv
  ·rename_i ti j kv vv h1 hx hi hy
   (try simp only [h1, hx, hi, hy])
   have e1 := V.plain_same (h := h) (h' := h') vv fun k m => hr k (by simp only [rds]; exact vids_mem (by simp) hy m)
   rw [← hr j (by simp only [rds]; exact vids_mem (by simp) hx (by simp [V.ids])), ← e1]
   split at hv
   ·rename_i kr ka vr va es vv' is hk ho hp
    have e2 : froze h is = froze h' is := froze_same fun k m => hr k (by simp only [rds]; exact vids_mem (by simp) hy (V.plain_ids _ _ _ hp k m))
    (try simp only [hk, ho, hp, ← e2])
    exact hv
   ·cases hv
  ·cases hv
 case insert t x i y =>
  simp only [veff, effUpdate] at hv ⊢
  split at hv
  ·rename_i ti j kv vv h1 hx hi hy
   (try simp only [h1, hx, hi, hy])
   have e1 := V.plain_same (h := h) (h' := h') vv fun k m => hr k (by simp only [rds]; exact vids_mem (by simp) hy m)
   rw [← hr j (by simp only [rds]; exact vids_mem (by simp) hx (by simp [V.ids])), ← e1]
   split at hv
   ·rename_i kr ka vr va es vv' is hk ho hp
    have e2 : froze h is = froze h' is := froze_same fun k m => hr k (by simp only [rds]; exact vids_mem (by simp) hy (V.plain_ids _ _ _ hp k m))
    (try simp only [hk, ho, hp, ← e2])
    exact hv
   ·cases hv
  ·cases hv
 case call c =>
  simp only [veff] at hv ⊢
  unfold effCall at hv ⊢
  split at hv
  ·rename_i b hc
   (try simp only [hc])
   simp only [rds, rdsCall, hc] at hr
   split at hv
   ·rename_i vs hvs
    (try simp only [hvs])
    rw [evs_ids hvs] at hr
    unfold effBuiltin at hv ⊢
    split at hv
    ·
     rename_i x
     (try dsimp only)
     split at hv
     ·rename_i t ht
      (try simp only [ht])
      unfold effLen at hv ⊢
      split at hv
      ·rename_i ti h1
       (try simp only [h1])
       split at hv
       ·rename_i hk; (try simp only [hk]); exact hv
       ·rename_i hk; (try simp only [hk]); exact hv
       ·rename_i hk; (try simp only [hk]); exact hv
       ·rename_i hk; (try simp only [hk]); exact hv
       ·rename_i i hk; (try simp only [hk]); rw [← hr i (by simp [V.idsL, V.ids])]; exact hv
       ·rename_i hk; (try simp only [hk]); exact hv
       ·rename_i hk; (try simp only [hk]); exact hv
       ·rename_i i hk; (try simp only [hk]); rw [← hr i (by simp [V.idsL, V.ids])]; exact hv
       ·cases hv
      ·cases hv
     ·cases hv
    ·exact hv
    ·exact hv
    ·
     rename_i s x
     (try dsimp only)
     split at hv
     ·rename_i t u ht hu
      (try simp only [ht, hu])
      split at hv
      ·rename_i ui h1
       (try simp only [h1])
       split at hv
       ·rename_i hk; (try simp only [hk]); exact append_same (fun i m => hr i (by simp [V.idsL, m])) (fun i m => hr i (by simp [V.idsL, m])) hv hh
       ·cases hv
      ·cases hv
     ·cases hv
    ·rename_i i
     (try dsimp only)
     rw [← hr i (by simp [V.idsL, V.ids])]; exact hv
    ·rename_i i w₀ l n
     (try dsimp only)
     split at hv
     ·rename_i t ht
      (try simp only [ht])
      unfold effClear at hv ⊢
      rw [← hr i (by simp [V.idsL, V.ids])]; exact hv
     ·cases hv
    ·rename_i i
     (try dsimp only)
     rw [← hr i (by simp [V.idsL, V.ids])]
     split at hv
     ·rename_i r xs fz t hi ht
      (try rw [hi])
      (try simp only [ht])
      unfold effClear at hv ⊢
      rw [← hr i (by simp [V.idsL, V.ids])]; exact hv
     ·cases hv
    ·cases hv
   ·cases hv
  ·rename_i f hc
   (try simp only [hc])
   simp only [rds, rdsCall, hc] at hr
   split at hv
   ·rename_i f' a b vs d' hf hvs
    (try dsimp only at hr hv ⊢)
    (try simp only [hf, hvs] at hr); (try simp only [hf, hvs])
    cases hfb : decide (f' < 1000000000) with
    | false => rw [hfb] at hv; cases hv
    | true =>
    rw [hfb, cond_true] at hv
    rw [cond_true]
    cases hl : lend E h f' (a ++ vs ++ b) with
    | none => unfold vcall at hv; rw [hl] at hv; cases hv
    | some p =>
      obtain ⟨as, lent⟩ := p
      cases ho : order h (dedup (V.rootsL as) []) (V.idsL as) with
      | none => unfold vcall at hv; rw [hl] at hv; (try dsimp only at hv; rw [ho] at hv; cases hv)
      | some L =>
        simp only [hl, ho] at hr
        refine vcall_same (fun as' lent' L' h1 h2 => ?_) ?_ hv hh hE
        ·rw [hl] at h1; cases h1; rw [ho] at h2; cases h2; exact hr
        ·rw [hl, lend_reads hl fun i m => hr i (by simp [m])]
   ·rename_i i vs d' hf hvs
    (try dsimp only at hr hv ⊢)
    (try simp only [hf, hvs] at hr); (try simp only [hf, hvs])
    cases hi : h i with
    | none => rw [hi] at hv; cases hv
    | some ob =>
      cases ob with
      | loop y fr₀ st =>
        rw [hi] at hv hr
        dsimp only at hv hr
        cases hl : lend E h (1000000000 + y) (.yld i :: vs) with
        | none => unfold vcall at hv; rw [hl] at hv; cases hv
        | some p =>
          obtain ⟨as, lent⟩ := p
          cases ho : order h (dedup (V.rootsL as) []) (V.idsL as) with
          | none => unfold vcall at hv; rw [hl] at hv; (try dsimp only at hv; rw [ho] at hv; cases hv)
          | some L =>
            simp only [hl, ho] at hr
            rw [← hr i (by simp), hi]
            dsimp only
            refine vcall_same (fun as' lent' L' h1 h2 => ?_) ?_ hv hh hE
            ·rw [hl] at h1; cases h1; rw [ho] at h2; cases h2; exact fun j m => hr j (by simp only [List.mem_cons]; exact .inr m)
            ·rw [hl, lend_reads hl fun i m => hr i (by simp [m])]
      | _ => rw [hi] at hv; cases hv
   ·cases hv
  ·cases hv
 case mapEntry t x y =>
  simp only [rds] at hr
  simp only [veff] at hv ⊢
  unfold effMapEntry at hv ⊢
  split at hv
  ·rename_i ti i kv h1 hx hy
   (try simp only [h1, hx, hy])
   rw [← hr i (vids_mem (by simp) hx (by simp [V.ids]))]
   split at hv
   ·rename_i te kr ka vr va es hk h2 ho
    (try simp only [hk, h2, ho])
    split at hv
    ·rename_i key z hkey hz
     (try simp only [hkey, hz])
     refine one_bif hv fun hv => ?_
     split at hv
     ·rename_i u hm
      (try simp only [hm])
      exact new_same hv hh
     ·cases hv
    ·cases hv
   ·cases hv
  ·cases hv
 case entryStore t x y z =>
  simp only [rds] at hr
  simp only [veff] at hv ⊢
  unfold effEntryStore at hv ⊢
  split at hv
  ·rename_i i j vv hx hy hz
   (try simp only [hx, hy, hz])
   rw [← hr i (vids_mem (by simp) hx (by simp [V.ids]))]
   exact hv
  ·cases hv
 case range t x =>
  simp only [rds, vids] at hr
  simp only [veff] at hv ⊢
  unfold effRange at hv ⊢
  split at hv
  ·rename_i ti s h1 hx
   split at hv
   ·rename_i hk
    (try simp only [h1, hx, hk])
    exact new_same hv hh
   ·cases hv
  ·rename_i ti i h1 hx
   rw [hx] at hr
   have hi := hr i (by simp [V.ids])
   split at hv
   ·rename_i kr ka vr va es hk ho
    (try simp only [h1, hx, hk])
    rw [← hi, ho]
    exact new_same hv hh
   ·cases hv
  ·cases hv
 case entry x =>
  simp only [rds, vids] at hr
  simp only [veff, effEntry] at hv ⊢
  cases hx : ev E fr x with
  | none => rw [hx] at hv; cases hv
  | some v =>
    rw [hx] at hv hr
    cases v <;> first | (cases hv; done) | skip
    rename_i i k wd off
    have h1 := hr i (by simp [V.ids])
    dsimp only at hv ⊢
    rw [← h1]
    split at hv
    ·rename_i mm kr ka vr va left e hi
     have h2 := hr mm (by simp [V.ids, hi, Ob.ids])
     unfold lockB at hv ⊢
     rw [← h2]
     exact hv
    ·cases hv
 case next x s =>
  simp only [rds, vids] at hr
  simp only [veff, effNext] at hv ⊢
  cases hx : ev E fr x with
  | none => rw [hx] at hv; cases hv
  | some v =>
    rw [hx] at hv hr
    cases v <;> first | (cases hv; done) | skip
    rename_i i k wd off
    have := hr i (by simp [V.ids])
    dsimp only at hv ⊢
    rw [← this]
    exact hv
 all_goals exact hv
end
end Vm
namespace Vm
open Go
inductive Sched (anc : Nat → Nat → Prop) : List Nat → Prop
 | nil : Sched anc []
 | snoc {l : List Nat} {i : Nat} : Sched anc l → i ∉ l → (∀ j, anc j i → j ∈ l) → Sched anc (l ++ [i])
section
variable {anc : Nat → Nat → Prop} {l : List Nat}
theorem Sched.down (h : Sched anc l) : ∀ i ∈ l, ∀ j, anc j i → j ∈ l := by
 induction h with
 | nil => simp
 | snoc h hi ha ih =>
   intro i hi' j hj
   simp only [List.mem_append, List.mem_singleton] at hi' ⊢
   rcases hi' with hi' | rfl
   ·exact .inl (ih i hi' j hj)
   ·exact .inl (ha j hj)
theorem Sched.sorted (hlt : ∀ j i, anc j i → j < i) (h : Sched anc l) (p : Nat → Bool) (hp : ∀ i j, p i = true → p j = true → i ≠ j → anc i j ∨ anc j i) : (l.filter p).Pairwise (· < ·) := by
 induction h with
 | nil => simp
 | snoc h hi ha ih =>
   rename_i l i
   rw [List.filter_append, List.pairwise_append]
   refine ⟨ih, ?_, fun a ha' b hb => ?_⟩
   ·simp only [List.filter_cons, List.filter_nil]; split <;> simp
   ·simp only [List.filter_cons, List.filter_nil] at hb
    split at hb
    ·rename_i hpi
     simp only [List.mem_singleton] at hb
     subst hb
     obtain ⟨h1, h2⟩ := List.mem_filter.1 ha'
     have hne : a ≠ b := fun e => hi (e ▸ h1)
     rcases hp a b h2 hpi hne with h3 | h3
     ·exact hlt _ _ h3
     ·exact (hi (h.down a h1 b h3)).elim
    ·cases hb
theorem sorted_ext : (l m : List Nat) → l.Pairwise (· < ·) → m.Pairwise (· < ·) → (∀ i, i ∈ l ↔ i ∈ m) → l = m
 | [], [], _, _, _ => rfl
 | [], b :: m, _, _, h => by have := (h b).2 (by simp); cases this
 | a :: l, [], _, _, h => by have := (h a).1 (by simp); cases this
 | a :: l, b :: m, h1, h2, h => by
   have h1' := List.pairwise_cons.1 h1
   have h2' := List.pairwise_cons.1 h2
   have hab : a = b := by
    rcases List.mem_cons.1 ((h a).1 (by simp)) with e | e
    ·exact e
    ·rcases List.mem_cons.1 ((h b).2 (by simp)) with e' | e'
     ·exact e'.symm
     ·have := h1'.1 b e'; have := h2'.1 a e; omega
   subst hab
   congr 1
   refine sorted_ext l m h1'.2 h2'.2 fun i => ?_
   constructor
   ·intro hi
    have := h1'.1 i hi
    rcases List.mem_cons.1 ((h i).1 (by simp [hi])) with e | e
    ·omega
    ·exact e
   ·intro hi
    have := h2'.1 i hi
    rcases List.mem_cons.1 ((h i).2 (by simp [hi])) with e | e
    ·omega
    ·exact e
def wr {α : Type} (f : Nat → Option α) (l : List Nat) (s : Option α) : Option α := l.foldl (fun s i => match f i with
 | some x => some x
 | none => s) s
theorem wr_filter {α : Type} (f : Nat → Option α) : (l : List Nat) → (s : Option α) → wr f l s = wr f (l.filter fun i => (f i).isSome) s
 | [], _ => rfl
 | i :: l, s => by
   have ih := fun s => wr_filter f l s
   unfold wr at *
   rw [List.filter_cons]
   cases hf : f i with
   | none => simp [hf]; exact ih _
   | some x => simp [hf]; exact ih _
theorem wr_snoc {α : Type} (f : Nat → Option α) (l : List Nat) (i : Nat) (s : Option α) : wr f (l ++ [i]) s = match f i with
 | some x => some x
 | none => wr f l s := by simp [wr]
theorem range_sorted (n : Nat) (p : Nat → Bool) : ((List.range n).filter p).Pairwise (· < ·) := List.Pairwise.filter p List.pairwise_lt_range
theorem wr_ready {α : Type} {f : Nat → Option α} {s : Option α} (hlt : ∀ j i, anc j i → j < i) (h : Sched anc l) {i : Nat} (hi : i ∉ l) (ha : ∀ j, anc j i → j ∈ l)
  (hp : ∀ j k, (f j).isSome = true → (f k).isSome = true → j ≠ k → anc j k ∨ anc k j) (hpi : ∀ j, (f j).isSome = true → j ≠ i → anc i j ∨ anc j i) : wr f l s = wr f (List.range i) s := by
 rw [wr_filter, wr_filter f (List.range i)]
 congr 1
 refine sorted_ext _ _ (h.sorted hlt _ hp) (range_sorted _ _) fun j => ?_
 simp only [List.mem_filter, List.mem_range]
 constructor
 ·rintro ⟨h1, h2⟩
  have hne : j ≠ i := fun e => hi (e ▸ h1)
  rcases hpi j h2 hne with h3 | h3
  ·exact (hi (h.down j h1 i h3)).elim
  ·exact ⟨hlt _ _ h3, h2⟩
 ·rintro ⟨h1, h2⟩
  rcases hpi j h2 (by omega) with h3 | h3
  ·have := hlt _ _ h3; omega
  ·exact ⟨ha j h3, h2⟩
theorem wr_all {α : Type} {f : Nat → Option α} {s : Option α} (hlt : ∀ j i, anc j i → j < i) (h : Sched anc l) {n : Nat} (hn : ∀ i, i ∈ l ↔ i < n)
  (hp : ∀ j k, (f j).isSome = true → (f k).isSome = true → j ≠ k → anc j k ∨ anc k j) : wr f l s = wr f (List.range n) s := by
 rw [wr_filter, wr_filter f (List.range n)]
 congr 1
 refine sorted_ext _ _ (h.sorted hlt _ hp) (range_sorted _ _) fun j => ?_
 simp only [List.mem_filter, List.mem_range, hn]
end
def ancOf (acc : List Nat) (o : Oper) : Nat := o.after.toList.foldl (fun s e => if Region.binds .any e then s ||| 2 ^ e.on ||| acc.getD e.on 0 else s) 0
theorem ancs_len : (l : List Oper) → (acc : List Nat) → (ancs l acc).length = acc.length + l.length
 | [], acc => by simp [ancs]
 | o :: l, acc => by simp only [ancs]; rw [ancs_len]; simp; omega
theorem ancs_old : (l : List Oper) → (acc : List Nat) → (i : Nat) → i < acc.length → (ancs l acc)[i]? = acc[i]?
 | [], acc, i, _ => rfl
 | o :: l, acc, i, h => by
   simp only [ancs]
   rw [ancs_old l _ i (by simp; omega), List.getElem?_append_left h]
theorem ancs_get : (l : List Oper) → (acc : List Nat) → (i : Nat) → (o : Oper) → l[i]? = some o → ∃ acc', (∀ j, j < acc'.length → acc'[j]? = (ancs l acc)[j]?) ∧ (ancs l acc)[acc.length + i]? = some (ancOf acc' o)
 | [], _, i, _, h => by simp at h
 | p :: l, acc, i, o, h => by
   simp only [ancs]
   cases i with
   | zero =>
     simp at h
     subst h
     refine ⟨acc, fun j hj => ?_, ?_⟩
     ·rw [ancs_old _ _ j (by simp; omega), List.getElem?_append_left hj]
     ·rw [ancs_old _ _ _ (by simp)]; simp [ancOf]
   | succ i =>
     simp at h
     obtain ⟨acc', h1, h2⟩ := ancs_get l (acc ++ [ancOf acc p]) i o h
     refine ⟨acc', h1, ?_⟩
     rw [show acc.length + (i + 1) = (acc ++ [ancOf acc p]).length + i by simp; omega]
     exact h2
theorem fold_bits (acc : List Nat) (j : Nat) : (l : List Edge) → (s : Nat) → (l.foldl (fun s e => if Region.binds .any e then s ||| 2 ^ e.on ||| acc.getD e.on 0 else s) s).testBit j = true →
  s.testBit j = true ∨ ∃ e ∈ l, Region.binds .any e = true ∧ (j = e.on ∨ (acc.getD e.on 0).testBit j = true)
 | [], s, h => .inl h
 | e :: l, s, h => by
   simp only [List.foldl_cons] at h
   rcases fold_bits acc j l _ h with h | ⟨e', he, hb, hj⟩
   ·split at h
    ·rename_i hb
     simp only [Nat.testBit_or, Bool.or_eq_true, Nat.testBit_two_pow, decide_eq_true_eq] at h
     rcases h with (h | h) | h
     ·exact .inl h
     ·exact .inr ⟨e, by simp, hb, .inl h.symm⟩
     ·exact .inr ⟨e, by simp, hb, .inr h⟩
    ·exact .inl h
   ·exact .inr ⟨e', by simp [he], hb, hj⟩
def Anc (ops : Array Oper) (j i : Nat) : Prop := ((ancs ops.toList []).getD i 0).testBit j = true
theorem Anc.cases {ops : Array Oper} {j i : Nat} {o : Oper} (ho : ops[i]? = some o) (h : Anc ops j i) : ∃ e ∈ o.after, Region.binds .any e = true ∧ (j = e.on ∨ Anc ops j e.on) := by
 unfold Anc at *
 obtain ⟨acc', h1, h2⟩ := ancs_get ops.toList [] i o (by simpa using ho)
 simp only [List.length_nil, Nat.zero_add] at h2
 rw [List.getD_eq_getElem?_getD, h2, Option.getD_some] at h
 rcases fold_bits acc' j _ _ h with h | ⟨e, he, hb, hj⟩
 ·simp at h
 ·refine ⟨e, by simpa using he, hb, hj.imp id fun hj => ?_⟩
  rw [List.getD_eq_getElem?_getD] at hj ⊢
  by_cases hl : e.on < acc'.length
  ·rwa [← h1 _ hl]
  ·rw [List.getElem?_eq_none (by omega)] at hj; simp at hj
theorem Anc.oper {ops : Array Oper} {j i : Nat} (h : Anc ops j i) : ∃ o, ops[i]? = some o := by
 unfold Anc at h
 rw [List.getD_eq_getElem?_getD] at h
 rcases Nat.lt_or_ge i ops.size with hl | hl
 ·exact ⟨ops[i], by simp [hl]⟩
 ·rw [List.getElem?_eq_none (by rw [ancs_len]; simpa using hl)] at h; simp at h
theorem Anc.lt {ops : Array Oper} (hb : afterB ops = true) : (i j : Nat) → Anc ops j i → j < i := by
 intro i
 induction i using Nat.strongRecOn with
 | _ i ih =>
   intro j h
   obtain ⟨o, ho⟩ := h.oper
   obtain ⟨e, he, hbi, hj⟩ := Anc.cases ho h
   unfold afterB at hb
   rw [List.all_eq_true] at hb
   have h1 := hb i (by simp; exact (Array.getElem?_eq_some_iff.1 ho).1)
   simp only [ho, List.all_eq_true] at h1
   have h2 := h1 e (by simpa using he)
   simp only [hbi, Bool.not_true, Bool.false_or, decide_eq_true_eq] at h2
   rcases hj with rfl | hj
   ·exact h2
   ·exact Nat.lt_trans (ih e.on h2 j hj) h2
theorem Anc.ready {ops : Array Oper} {l : List Nat} (h : Sched (Anc ops) l) {i : Nat} {o : Oper} (ho : ops[i]? = some o) (ha : ∀ e ∈ o.after, Region.binds .any e = true → e.on ∈ l) : ∀ j, Anc ops j i → j ∈ l := by
 intro j hj
 obtain ⟨e, he, hb, hj⟩ := Anc.cases ho hj
 rcases hj with rfl | hj
 ·exact ha e he hb
 ·exact h.down _ (ha e he hb) j hj
end Vm
namespace Vm
open Go
section ops
variable {P : Program} {E : Env} {gl : Gl} {m : Nat} {w : World} {A : ASet} {η : Nat → Option Nat} {fr : Nat → Option V} {h : Nat → Option Ob} {a : Act} {nx : Nat}
theorem clearRows_yields (henv : EnvOk P E) (hs : SOk gl w A η fr h a.tmps) {o : Oper} {c : Call} {t : TypeId} {ti te : TI} (ho : o.op = .call c) (hc : c.callee = .builtin .clear) (hts : c.argTypes[0]? = some t)
  (ht : E.τ t = some ti) (hk : ti.tk = .slice) (hte : E.τ ti.elem = some te) {i l n cap : Nat} {ad : Option Addr} {xs : List te.row.Ty} (hi : h i = some (.arr te.row xs false)) {z : te.row.Ty} (hz : Ks.close te.row te.zero = some z)
  (hsz : te.size = te.row.len) (hl : l + n ≤ xs.length) (hargs : c.args.map a.eval = #[.slice ad n cap]) (had : 0 < n → ∃ b, ad = some ⟨b, l * te.row.len, none⟩ ∧ η i = some b) :
  Yields P gl m w A η h a o .undef [(i, .arr te.row (xs.take l ++ (List.replicate n z ++ xs.drop (l + n))) false)] := by
 obtain ⟨zv, z1, z2, z3⟩ := zero_row henv hte hz
 by_cases hn : n = 0
 ·subst hn
  have e : xs.take l ++ (List.replicate 0 z ++ xs.drop (l + 0)) = xs := by simp
  have eh : ovr h i (.arr te.row (xs.take l ++ (List.replicate 0 z ++ xs.drop (l + 0))) false) = h := by
   rw [e]
   funext j
   by_cases hj : i = j
   ·subst hj; rw [ovr_same, hi]
   ·rw [ovr_ne _ _ hj]
  refine ⟨.value (.tuple #[]), Go.undef, w, A, η, ?_, .inl rfl, by rw [ups_cons, ups_nil, eh]; exact .refl hs.heap, by simp [V.Rep], by simp [V.ids]⟩
  simp only [execOp, ho, resolve, hc, hargs, Sem.run_bind, Sem.run_pure, Result.andThen_ok, invoke, builtin, Builtin.clear_, hts, List.getElem?_toArray, List.getElem?_cons_zero, run_underlying (tk_slice henv ht hk)]
  cases ad <;> rfl
 ·obtain ⟨b, rfl, hb⟩ := had (by omega)
  rcases hs.heap.ob i _ hi with ⟨g1, _⟩ | ⟨b', c', T, g1, g2, g3, g4, g5⟩
  ·rw [hb] at g1; cases g1
  ·rw [hb] at g1; cases g1
   have hg2 : w.heap[b]? = some (.cells c' T (0, 0)) := by simpa using g2
   obtain ⟨Z, eZ, zr⟩ : ∃ Z : List Value, (List.replicate n zv.cells.toList).flatten = Z ∧ RowsIn w A te.row (List.replicate n z) Z := ⟨_, rfl, zero_rows (z3 w A) n⟩
   have hcl : c'.toList.length = c'.size := Array.length_toList
   have zl := zr.length
   rw [List.length_replicate] at zl
   have hfit : l * te.row.len + Z.length ≤ c'.size := by
    rw [zl, ← Nat.add_mul]
    exact Nat.le_trans (Nat.mul_le_mul_right _ hl) g3
   have hstore := run_storeBlock (P := P) hg2 hfit zr.cells_of
   have hlt : b < w.heap.size := (Array.getElem?_eq_some_iff.1 hg2).1
   have hsize : (c'.toList.take (l * te.row.len) ++ (Z ++ c'.toList.drop (l * te.row.len + Z.length))).toArray.size = c'.size := by
    simp only [List.size_toArray, List.length_append, List.length_take, List.length_drop, hcl]
    omega
   have hlen : (xs.take l ++ (List.replicate n z ++ xs.drop (l + n))).length = xs.length := by
    simp only [List.length_append, List.length_take, List.length_replicate, List.length_drop]
    omega
   have hget : ({ w with heap := w.heap.setIfInBounds b (.cells (c'.toList.take (l * te.row.len) ++ (Z ++ c'.toList.drop (l * te.row.len + Z.length))).toArray T) } : World).heap[b]?
    = some (.cells (c'.toList.take (l * te.row.len) ++ (Z ++ c'.toList.drop (l * te.row.len + Z.length))).toArray T) := by simp [hlt]
   have st := HStep.turn (m := m) (o' := .arr te.row (xs.take l ++ (List.replicate n z ++ xs.drop (l + n))) false) (x := .cells (c'.toList.take (l * te.row.len) ++ (Z ++ c'.toList.drop (l * te.row.len + Z.length))).toArray T)
    hs.heap (.of hg2 (by intro rec e; cases e)) (by intro c T fz e; cases e; rfl) hi (by unfold Mut; rw [hi]; trivial) hb
    (fun u hu => by
      unfold OwnRep at hu ⊢
      rw [ovr_same]
      rw [hi] at hu
      dsimp only at hu ⊢
      rcases hu with ⟨q1, _⟩ | ⟨b₂, cap₂, c₂, T₂, q1, q2, q3, q4, q5⟩
      ·rw [hb] at q1; cases q1
      ·rw [hb] at q1; cases q1
       rw [hg2] at q4; cases q4
       exact .inr ⟨b, cap₂, _, T, hb, by rw [hlen]; exact q2, by rw [hlen]; exact q3, hget, by rw [hsize]; exact q5⟩) (by simp [Ob.ids])
    (fun st => by
      refine .inr ⟨b, _, T, hb, hget, by rw [hsize, hlen]; exact g3, by simp, fun k y hy => ?_⟩
      have same : ∀ (k : Nat) (y : te.row.Ty), xs[k]? = some y → (k + 1) * te.row.len ≤ l * te.row.len ∨ (l + n) * te.row.len ≤ k * te.row.len → Ks.Rep { w with heap := w.heap.setIfInBounds b (.cells (c'.toList.take (l * te.row.len) ++ (Z ++ c'.toList.drop (l * te.row.len + Z.length))).toArray T) } A te.row y b (k * te.row.len) := by
       intro k y hy hk
       refine Ks.Rep.cells (fun b' hb' => st.imm b' hb') te.row y b (k * te.row.len) b (k * te.row.len) (fun j v hj hv => ?_) (g5 k y hy)
       obtain ⟨c₁, T₁, f₁, e1, e2⟩ := hv
       rw [hg2] at e1; cases e1
       refine ⟨_, T, (0, 0), hget, ?_⟩
       rw [List.getElem?_toArray]
       rcases hk with hk | hk
       ·rw [Nat.succ_mul] at hk
        rw [List.getElem?_append_left (by rw [List.length_take, hcl]; omega), List.getElem?_take_of_lt (by omega)]
        simpa using e2
       ·rw [Nat.add_mul] at hk
        rw [List.getElem?_append_right (by rw [List.length_take, hcl]; omega), List.getElem?_append_right (by rw [List.length_take, hcl, zl]; omega), List.getElem?_drop, List.length_take, hcl, zl]
        rw [show l * te.row.len + n * te.row.len + (k * te.row.len + j - min (l * te.row.len) c'.size - n * te.row.len) = k * te.row.len + j by omega]
        simpa using e2
      by_cases h1 : k < l
      ·rw [List.getElem?_append_left (by rw [List.length_take]; omega), List.getElem?_take_of_lt h1] at hy
       exact same k y hy (.inl (Nat.mul_le_mul_right _ h1))
      ·rw [List.getElem?_append_right (by rw [List.length_take]; omega), List.length_take, show min l xs.length = l by omega] at hy
       by_cases h2 : k < l + n
       ·rw [List.getElem?_append_left (by rw [List.length_replicate]; omega)] at hy
        have := (zr.mono st.imm).rep (b := b) (o := l * te.row.len) (fun j v hj => ⟨_, T, (0, 0), hget, by
         have hjl := (List.getElem?_eq_some_iff.1 hj).1
         rw [List.getElem?_toArray, List.getElem?_append_right (by rw [List.length_take, hcl]; omega), List.length_take, hcl, List.getElem?_append_left (by omega),
          show l * te.row.len + j - min (l * te.row.len) c'.size = j by omega]
         exact hj⟩) (k - l) y hy
        rw [← Nat.add_mul, show l + (k - l) = k by omega] at this
        exact this
       ·rw [List.getElem?_append_right (by rw [List.length_replicate]; omega), List.length_replicate, List.getElem?_drop, show l + n + (k - l - n) = k by omega] at hy
        exact same k y hy (.inr (Nat.mul_le_mul_right _ (by omega))))
   refine ⟨.value (.tuple #[]), Go.undef, _, A, η, ?_, .inl rfl, by rw [ups_cons, ups_nil]; exact st, by simp [V.Rep], by simp [V.ids]⟩
   simp only [execOp, ho, resolve, hc, hargs, Sem.run_bind, Sem.run_pure, Result.andThen_ok, invoke, builtin, Builtin.clear_, hts, List.getElem?_toArray, List.getElem?_cons_zero, run_underlying (tk_slice henv ht hk)]
   obtain ⟨n', rfl⟩ : ∃ n', n = n' + 1 := ⟨n - 1, by omega⟩
   have ez : (Builtin.zeroCells zv.cells (n' + 1)).toList = Z := by
    rw [← eZ]
    unfold Builtin.zeroCells
    rw [zeros_eq]
   simp only [z1, Sem.run_bind, Result.andThen_ok, ez, hstore, Sem.run_pure]
end ops
end Vm
namespace Vm
open Go
section ops
variable {P : Program} {E : Env} {gl : Gl} {m : Nat} {w : World} {A : ASet} {η : Nat → Option Nat} {fr : Nat → Option V} {h : Nat → Option Ob} {a : Act} {nx : Nat}
variable {R : Type} {kk : Kk R} {r : R}
theorem findKey_push {α β : Type} (eq : α → α → Bool) (key : α) (z : β) (k : α) : (es : List (α × β)) → (findKey eq k (es ++ [(key, z)])).getD z = (findKey eq k es).getD z
 | [] => by simp only [List.nil_append, findKey]; split <;> rfl
 | (a, b) :: es => by
   simp only [List.cons_append, findKey]
   split
   ·rfl
   ·exact findKey_push eq key z k es
theorem setKey_same {α β : Type} {eq : α → α → Bool} (hl : ∀ a b, eq a b = true → a = b) {k : α} {x : β} : {es : List (α × β)} → findKey eq k es = some x → setKey eq k x es = es
 | [], h => by simp [findKey] at h
 | (a, b) :: es, h => by
   simp only [findKey] at h
   simp only [setKey]
   split
   ·rename_i e
    rw [if_pos e] at h
    cases h
    rw [hl _ _ e]
   ·rename_i e
    rw [if_neg e] at h
    rw [setKey_same hl h]
theorem EntsRep.at {kr vr : Ks} {ka va : Bool} : {es : List (kr.Ty × vr.Ty)} → {l : List MapEntry} → EntsRep w A kr ka vr va es l → ∀ (i : Nat) (x : kr.Ty × vr.Ty), es[i]? = some x → ∃ e : MapEntry, l[i]? = some e ∧ RowVal w A ka kr x.1 e.key ∧ RowVal w A va vr x.2 e.val
 | [], l, h, i, x, hx => by simp at hx
 | (k, v) :: es, l, h, i, x, hx => by
   simp only [EntsRep] at h
   obtain ⟨e, l', rfl, h1, h2, h3⟩ := h
   cases i with
   | zero => simp at hx; subst hx; exact ⟨e, rfl, h1, h2⟩
   | succ i => simp at hx ⊢; exact EntsRep.at h3 i x hx
theorem mapEntry_yields (henv : EnvOk P E) (hgl : E.gl = gl) (hs : SOk gl w A η fr h a.tmps) (hm : m ≤ nx) {o : Oper} {t : TypeId} {x y : Operand} (ho : o.op = .mapEntry t x y) (hv : effMapEntry E fr h nx o.dst kk t x y = some r) :
  Goal P gl m w A η h a o fun S kk => effMapEntry E fr h nx o.dst kk t x y := by
 unfold effMapEntry at hv
 split at hv
 ·rename_i ti i kv h1 hx hy
  obtain ⟨rx, dx⟩ := ev_rep hgl hs hx
  obtain ⟨ry, dy⟩ := ev_rep hgl hs hy
  simp only [V.Rep] at rx
  obtain ⟨b, hb, hxe⟩ := rx
  split at hv
  ·rename_i te kr ka vr va es hk h2 hi
   obtain ⟨kt, hkt⟩ := tk_map henv h1 hk
   have K := henv.key t ti kt _ h1 hk hkt
   split at hv
   ·rename_i key z hkey hz
    by_cases hc : ((Ks.eqp kr ti.key).isSome && (va == te.agg) && (ka == isAggV kv) && ti.ka == ka && kr.cmp) = true
    ·rw [hc, cond_true] at hv
     have hcc := hc
     simp only [Bool.and_eq_true, beq_iff_eq] at hc
     obtain ⟨⟨⟨⟨c1, rfl⟩, rfl⟩, c4⟩, c5⟩ := hc
     obtain ⟨⟨rfl⟩, _⟩ := Option.isSome_iff_exists.1 c1
     rw [c4] at K
     split at hv
     ·rename_i v hmk
      obtain ⟨d, hd, hn, hkk⟩ := new_some hv
      have ry' := rowVal_close hkey ry
      obtain ⟨b', ents, clk, g1, g2, g3, g4⟩ := hs.heap.ob i _ hi
      rw [hb] at g1; cases g1
      have hlt : b < w.heap.size := (Array.getElem?_eq_some_iff.1 g2).1
      obtain ⟨q, hq, hf⟩ := find_run K ry' g3
      obtain ⟨zv, hz1, hz2⟩ := zero_rowVal henv h2 hz
      have hne : i ≠ nx + 64 * d := fun e => by rw [e, hn] at hi; cases hi
      have run : ∃ (ents' : Array MapEntry) (clk' n : Nat) (c : Value) (es' : List (ti.key.Ty × vr.Ty)) (p : Nat) (e : MapEntry) (x' : vr.Ty), (execOp a.eval o).run P w = .ok (.value (.tuple #[c, goInt n])) { w with heap := w.heap.setIfInBounds b (.map ents' clk') } ∧ V.Rep w A η h v c ∧ v.ids = [] ∧
        Stamped ents'.toList clk' ∧ EntsRep w A ti.key (isAggV kv) vr te.agg es' ents'.toList ∧ ents'.toList[p]? = some e ∧ e.born = n ∧ es'[p]? = some (key, x') ∧ (∀ y, es'.set p (key, y) = setKey ti.key.beq key y es) ∧ ∀ k, (findKey ti.key.beq k es').getD z = (findKey ti.key.beq k es).getD z := by
       cases q with
       | none =>
         rw [hf.1] at hmk
         simp only [Option.getD_none] at hmk
         obtain ⟨e1, e2⟩ := rowVal_rep (η := η) (h := h) henv h2 hmk (hz2 w A)
         have hl := (EntsRep.length g3)
         refine ⟨ents.push { key := a.eval y, val := zv, born := clk }, clk + 1, clk, zv, es ++ [(key, z)], es.length, { key := a.eval y, val := zv, born := clk }, z, ?_, e1, e2, by simpa using g4.push _ rfl, by simpa using EntsRep.push (e := { key := a.eval y, val := zv, born := clk }) g3 ry' (hz2 w A), by rw [Array.toList_push, List.getElem?_append_right (by omega)]; simp [hl], rfl, by simp, fun y => ?_, fun k => findKey_push _ _ _ _ _⟩
         ·simp only [execOp, ho, Instr.mapEntry, Sem.run_bind, run_underlying hkt, Result.andThen_ok, hxe, MapKept.run_getObj_map g2, K.check w A key _ _ ry', hq, hz1, MapKept.run_setObj_map _ g2, Sem.run_pure]
         ·rw [hf.2]; simp
       | some q =>
         obtain ⟨j, val'⟩ := q
         obtain ⟨i', x', k', e', f6, f7, f8, f9, f10, f11, f12, f13, f14⟩ := hf
         rw [Nat.zero_add] at f6; subst f6
         rw [f7] at hmk
         simp only [Option.getD_some] at hmk
         obtain ⟨e1, e2⟩ := rowVal_rep (η := η) (h := h) henv h2 hmk f10
         have hbit := K.bits w A key k' _ _ ry' f11 f12
         have hget : ents[j]? = some e' := by simpa using f8
         have hsame : setKey ti.key.beq key x' es = es.set j (key, x') := f14 x'
         have hset : EntsRep w A ti.key (isAggV kv) vr te.agg (es.set j (key, x')) (ents.toList.modify j fun e => { e with key := a.eval y }) := by
          have hval : ents.toList.modify j (fun e => { e with key := a.eval y }) = ents.toList.modify j fun e => { e with key := a.eval y, val := val' } := by
           apply List.ext_getElem?
           intro k
           simp only [List.getElem?_modify]
           by_cases hk' : j = k
           ·subst hk'
            rw [f8]; simp [← f9]
           ·simp [hk']
          rw [hval]
          exact EntsRep.set g3 j f13 (fun e => { e with key := a.eval y, val := val' }) fun e₀ => ⟨ry', f10⟩
         refine ⟨ents.modify j fun e => { e with key := a.eval y }, clk, e'.born, val', es.set j (key, x'), j, { e' with key := a.eval y }, x', ?_, e1, e2, by simpa using g4.modify j (fun e => { e with key := a.eval y }) fun _ => rfl, by simpa using hset, by simp [hget], rfl, by simp [f13], fun y => by rw [f14 y, List.set_set], fun k => ?_⟩
         ·simp only [execOp, ho, Instr.mapEntry, Sem.run_bind, run_underlying hkt, Result.andThen_ok, hxe, MapKept.run_getObj_map g2, K.check w A key _ _ ry', hq, hget, Option.map_some, Option.getD_some, Instr.keyThatStays, hbit, if_true, Sem.run_pure, MapKept.run_setObj_map _ g2]
         ·rw [← hsame, setKey_same (fun a b => Ks.beq_eq ti.key c5) f7]
      obtain ⟨ents', clk', n, c, es', p, e, x', hrun, rc, ic, q1, q2, q3, q4, q5, q6, q7⟩ := run
      have st1 := HStep.newDead (m := m) hs.heap n hn (by omega)
      have hi1 : ovr h (nx + 64 * d) .dead i = some (.map ti.key (isAggV kv) vr te.agg es) := by rw [ovr_ne _ _ (Ne.symm hne)]; exact hi
      have hb1 : upd η (nx + 64 * d) (some n) i = some b := by rw [upd_ne _ _ (Ne.symm hne)]; exact hb
      have st2 := HStep.turn (m := m) (o' := .emap (nx + 64 * d) ti.key (isAggV kv) vr te.agg es key z) (x := .map ents' clk') st1.ok (.of g2 (by intro rec e; cases e)) (by intro c T fz e; cases e) hi1 (by unfold Mut; rw [hi1]; trivial) hb1
       (fun u hu => by unfold OwnRep at hu ⊢; rw [ovr_same]; rw [hi1] at hu; exact hu) (by intro k hk; simp only [Ob.ids, List.mem_singleton] at hk; subst hk; rw [ovr_same]; simp)
       (fun st => ⟨b, ents', clk', n, es', p, e, x', hb1, heap_set hlt _, upd_same _ _ _, q1, EntsRep.mono st.imm _ _ q2, q3, q4, q5, q6, q7⟩)
      have st := st1.trans' st2
      have eh : ups [(nx + 64 * d, Ob.dead), (i, .emap (nx + 64 * d) ti.key (isAggV kv) vr te.agg es key z)] h = ovr (ovr h (nx + 64 * d) .dead) i (.emap (nx + 64 * d) ti.key (isAggV kv) vr te.agg es key z) := by
       rw [ups_cons, ups_cons, ups_nil]
       funext k
       unfold ovr
       by_cases e1 : nx + 64 * d = k
       ·subst e1; simp [hne]
       ·simp [e1]
      refine ⟨_, _, fun S kk => by simp only [effMapEntry, h1, hx, hy, hk, h2, hi, hkey, hz]; rw [hcc, cond_true]; simp only [hmk]; exact hkk S kk, _, _, _, A, _, hrun, .inl rfl, by rw [hd, Option.getD_some, eh]; exact st, ?_, ?_⟩
      ·simp only [V.Rep, V.RepL]
       exact ⟨_, rfl, _, _, rfl, V.Rep.mono st.still v c (by simp [ic]) rc |> fun hq => by rw [hd, Option.getD_some, eh]; exact hq, _, _, rfl, ⟨n, by rw [upd_same], rfl⟩, rfl⟩
      ·intro k hk
       simp only [V.ids, V.idsL, ic, List.nil_append, List.append_nil, List.mem_singleton] at hk
       subst hk
       rw [hd, Option.getD_some, eh, ovr_ne _ _ hne, ovr_same]; simp
     ·cases hv
    ·rw [Bool.eq_false_iff.2 hc, cond_false] at hv; cases hv
   ·cases hv
  ·cases hv
 ·cases hv
theorem entryStore_yields (hgl : E.gl = gl) (hs : SOk gl w A η fr h a.tmps) {o : Oper} {t : TypeId} {x y z : Operand} (ho : o.op = .entryStore t x y z) (hv : effEntryStore E fr h kk x y z = some r) :
  Goal P gl m w A η h a o fun S kk => effEntryStore E fr h kk x y z := by
 unfold effEntryStore at hv
 split at hv
 ·rename_i i j vv hx hy hz
  obtain ⟨rx, dx⟩ := ev_rep hgl hs hx
  obtain ⟨ry, dy⟩ := ev_rep hgl hs hy
  obtain ⟨rz, dz⟩ := ev_rep hgl hs hz
  simp only [V.Rep] at rx ry
  obtain ⟨b, hb, hxe⟩ := rx
  obtain ⟨n, hn, hye⟩ := ry
  split at hv
  ·rename_i j' kr ka vr va es key z₀ hi
   split at hv
   ·rename_i val hval
    cases hc : (decide (j' = j) && (va == isAggV vv)) with
    | false => rw [hc, cond_false] at hv; cases hv
    | true =>
      have hcc := hc
      simp only [Bool.and_eq_true, decide_eq_true_eq, beq_iff_eq] at hc
      obtain ⟨rfl, rfl⟩ := hc
      obtain ⟨b', ents, clk, n', es', p, e, x', g1, g2, g3, g4, g5, g6, g7, g8, g9, g10⟩ := hs.heap.ob i _ hi
      rw [hb] at g1; cases g1
      rw [hn] at g3; cases g3
      have hlt : b < w.heap.size := (Array.getElem?_eq_some_iff.1 g2).1
      have rv := rowVal_close hval rz
      obtain ⟨e₁, k1, k2, k3⟩ := EntsRep.at g5 p _ g8
      rw [g6] at k1; cases k1
      have hp : p < es'.length := (List.getElem?_eq_some_iff.1 g8).1
      have hfind : ents.findIdx? (fun e => (e.born : Int) == (n : Int)) = some p := by
       have et : ents = ents.toList.toArray := by simp
       conv => lhs; rw [et]
       rw [List.findIdx?_toArray, List.findIdx?_eq_some_iff_getElem]
       obtain ⟨hpl, hpe⟩ := List.getElem?_eq_some_iff.1 g6
       refine ⟨hpl, by rw [hpe, g7]; simp, fun q hq => ?_⟩
       have := List.pairwise_iff_getElem.1 g4.2 q p (by omega) hpl hq
       rw [hpe, g7] at this
       simp only [beq_iff_eq, Bool.not_eq_true, beq_eq_false_iff_ne, ne_eq]
       omega
      have hset : EntsRep w A kr ka vr (isAggV vv) (setKey kr.beq key val es) (ents.modify p fun e => { e with val := a.eval z }).toList := by
       rw [← g9 val]
       have : (ents.modify p fun e => { e with val := a.eval z }).toList = ents.toList.modify p fun e₀ => { e₀ with key := e.key, val := a.eval z } := by
        rw [Array.toList_modify]
        apply List.ext_getElem?
        intro k
        simp only [List.getElem?_modify]
        by_cases hk : p = k
        ·subst hk; rw [g6]; simp
        ·simp [hk]
       rw [this]
       exact EntsRep.set g5 p hp (fun e₀ => { e₀ with key := e.key, val := a.eval z }) fun e₀ => ⟨k2, rv⟩
      have st := HStep.turn (m := m) (o' := .map kr ka vr (isAggV vv) (setKey kr.beq key val es)) (x := .map (ents.modify p fun e => { e with val := a.eval z }) clk) hs.heap (.of g2 (by intro rec e; cases e)) (by intro c T fz e; cases e) hi (by unfold Mut; rw [hi]; trivial) hb
       (fun u hu => by unfold OwnRep at hu ⊢; rw [ovr_same]; rw [hi] at hu; exact hu) (by simp [Ob.ids]) (fun st => ⟨b, _, clk, hb, heap_set hlt _, EntsRep.mono st.imm _ _ hset, by simpa using g4.modify p (fun e => { e with val := a.eval z }) fun _ => rfl⟩)
      refine ⟨.undef, [(i, .map kr ka vr (isAggV vv) (setKey kr.beq key val es))], fun S kk => by simp only [effEntryStore, hx, hy, hz, hi, hval]; simp, _, Go.undef, _, A, η, ?_, .inr ⟨rfl, rfl⟩, by rw [ups_cons, ups_nil]; exact st, by simp [V.Rep], by simp [V.ids]⟩
      have hai : (asInt (goInt n)).run P w = .ok (n : Int) w := rfl
      simp only [execOp, ho, Sem.run_bind, Instr.entryStore, hxe, hye, MapKept.run_getObj_map g2, Result.andThen_ok, hai, hfind, MapKept.run_setObj_map _ g2, Sem.run_pure]
   ·cases hv
  ·cases hv
 ·cases hv
end ops
end Vm
