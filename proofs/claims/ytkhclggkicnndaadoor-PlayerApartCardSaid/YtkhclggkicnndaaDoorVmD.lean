/- The value machine is sound: regions in any order, code, functions, calls. -/
import Derived.Test.YtkhclggkicnndaaDoorVmC
import Derived.OrdersIn
import Derived.RangeFuncLeaves
import Derived.RangeFuncRecord
import Derived.Laws.Sem
namespace Vm
open Go
theorem V.idsL_append : (a b : List V) → V.idsL (a ++ b) = V.idsL a ++ V.idsL b
 | [], _ => rfl
 | v :: a, b => by simp only [List.cons_append, V.idsL]; rw [V.idsL_append a b, List.append_assoc]
section
variable {P : Program} {E : Env} {gl : Gl} {m : Nat} {w : World} {A : ASet} {η : Nat → Option Nat} {fr : Nat → Option V} {h : Nat → Option Ob} {a : Act} {o : Oper} {v : V} {up : List (Nat × Ob)} {nx : Nat}
def Then (gl : Gl) (m : Nat) (w : World) (A : ASet) (η : Nat → Option Nat) (h h' : Nat → Option Ob) (v : V) (K : Value → World → Prop) : Prop :=
 ∀ c w' A' η', HStep gl m w A η h w' A' η' h' → V.Rep w' A' η' h' v c → (∀ i ∈ v.ids, h' i ≠ none) → K c w'
def callV (f : Nat) (cs : Array Value) : Sem Next := if f < 1000000000 then callFunc f cs else match cs.toList with
 | .func (.yield l) _ _ :: l' => Instr.yield l l'.toArray
 | _ => stuck "no function"
def Runs (P : Program) (gl : Gl) (m : Nat) (w : World) (A : ASet) (η : Nat → Option Nat) (h : Nat → Option Ob) (a : Act) (o : Oper) (v : V) (up : List (Nat × Ob)) : Prop :=
 ∀ (Q : Exit → Act → World → Prop) (K : Act → World → Prop), Then gl m w A η h (ups up h) v (fun c w' => K (a.put o.dst c) w') → o.uponIn Fence.wide 0 P a K Q ((execOp a.eval o).run P w)
theorem Yields.runs (hy : Yields P gl m w A η h a o v up) : Runs P gl m w A η h a o v up := by
 obtain ⟨n, c, w', A', η', hr, hn, hst, hv, hd⟩ := hy
 intro Q K hK
 rw [hr]
 rcases hn with rfl | ⟨rfl, rfl⟩
 ·exact hK _ _ _ _ hst hv hd
 ·exact hK _ _ _ _ hst hv hd
def CallsOk (P : Program) (E : Env) : Prop := ∀ (gl : Gl) (m : Nat) (w : World) (A : ASet) (η : Nat → Option Nat) (h : Nat → Option Ob) (base f : Nat) (args : List V) (v : V) (up : List (Nat × Ob)),
 E.gl = gl → HeapOk gl w A η h → m ≤ base → vcall E h base f args one = some (v, up) → ∀ cs : Array Value, V.RepL w A η h args cs.toList → (∀ i ∈ V.idsL args, h i ≠ none) →
  ∀ (o : Oper) (a : Act) (Q : Exit → Act → World → Prop) (K : Act → World → Prop), Then gl m w A η h (ups up h) v (fun c w' => K (a.put o.dst c) w') → o.uponIn Fence.wide 0 P a K Q ((callV f cs).run P w)
structure Ready (P : Program) (E : Env) : Prop where
 env : EnvOk P E
 nat : E.Nat
 calls : CallsOk P E
 body : ∀ g, E.hasBody g = true → g < 1000000000 ∧ ∃ fn c, P.funcs[g]? = some fn ∧ fn.body = some c ∧ fn.name ≠ "runtime.NumGoroutine"
theorem goal_runs {eff : (S : Type) → Kk S → Option S} (hg : Goal P gl m w A η h a o eff) (hv : eff Kp one = some (v, up)) : Runs P gl m w A η h a o v up := by
 obtain ⟨v', up', he, hy⟩ := hg
 rw [he] at hv
 simp only [Option.some.injEq, Prod.mk.injEq] at hv
 rw [← hv.1, ← hv.2]
 exact hy.runs
theorem builtin_runs (hE : Ready P E) (hgl : E.gl = gl) (hs : SOk gl w A η fr h a.tmps) (hm : m ≤ nx) {c : Call} {b : Builtin} {vs : List V} (ho : o.op = .call c) (hc : c.callee = .builtin b) (he : evs E fr c.args.toList = some vs)
  (hv : effBuiltin E h nx o.dst one b c.argTypes vs = some (v, up)) : Runs P gl m w A η h a o v up := by
 obtain ⟨h1, h2⟩ := evs_rep hgl hs he
 have one_arg : ∀ x : V, vs = [x] → ∃ y, c.args.map a.eval = #[y] ∧ V.Rep w A η h x y := fun x hx => by
  subst hx
  simp only [V.RepL] at h1
  obtain ⟨y, l, hl, h3, rfl⟩ := h1
  exact ⟨y, by apply Array.toList_inj.1; simpa using hl, h3⟩
 have two_arg : ∀ x x' : V, vs = [x, x'] → ∃ y y', c.args.map a.eval = #[y, y'] ∧ V.Rep w A η h x y ∧ V.Rep w A η h x' y' := fun x x' hx => by
  subst hx
  simp only [V.RepL] at h1
  obtain ⟨y, l, hl, h3, y', l', hl', h4, rfl⟩ := h1
  exact ⟨y, y', by apply Array.toList_inj.1; rw [hl'] at hl; simpa using hl, h3, h4⟩
 unfold effBuiltin at hv
 split at hv
 ·rename_i x
  obtain ⟨y, hy, hr⟩ := one_arg x rfl
  split at hv
  ·rename_i t ht
   exact goal_runs (len_yields hE.env hs ho hc ht hy hr hv) hv
  ·cases hv
 ·rename_i k x k' y
  obtain ⟨c1, c2, hy, hr, hr'⟩ := two_arg _ _ rfl
  simp only [V.Rep] at hr hr'
  subst hr; subst hr'
  split at hv
  ·rename_i hk
   subst hk
   simp only [one, Option.some.injEq, Prod.mk.injEq] at hv
   rw [← hv.1, ← hv.2]
   exact ((minmax_yields hs ho hy).1 hc).runs
  ·cases hv
 ·rename_i k x k' y
  obtain ⟨c1, c2, hy, hr, hr'⟩ := two_arg _ _ rfl
  simp only [V.Rep] at hr hr'
  subst hr; subst hr'
  split at hv
  ·rename_i hk
   subst hk
   simp only [one, Option.some.injEq, Prod.mk.injEq] at hv
   rw [← hv.1, ← hv.2]
   exact ((minmax_yields hs ho hy).2 hc).runs
  ·cases hv
 ·rename_i s x
  obtain ⟨c1, c2, hy, hr, hr'⟩ := two_arg _ _ rfl
  split at hv
  ·rename_i t u ht hu
   split at hv
   ·rename_i ui hui
    split at hv
    ·rename_i hk
     exact goal_runs (append_yields hE.env hs hm ho hc ht hu hui hk hy hr hr' hv) hv
    ·cases hv
   ·cases hv
  ·cases hv
 ·rename_i i
  obtain ⟨y, hy, hr⟩ := one_arg _ rfl
  split at hv
  ·rename_i t ht
   split at hv
   ·rename_i ti hti
    split at hv
    ·rename_i kr ka vr va es hi
     simp only [one, Option.some.injEq, Prod.mk.injEq] at hv
     rw [← hv.1, ← hv.2]
     have htk := hE.env.tk hti
     obtain ⟨d, hd⟩ : ∃ d, P.underlying t = some d := by
      cases hd : P.underlying t with
      | some d => exact ⟨d, rfl⟩
      | none => unfold tkOk at htk; rw [hd] at htk; cases hk : ti.tk <;> rw [hk] at htk <;> simp at htk
     exact (clear_yields hs ho hc ht hd hy hr hi).runs
    ·cases hv
   ·cases hv
  ·cases hv
 ·rename_i i w₀ l n
  obtain ⟨y, hy, hr⟩ := one_arg _ rfl
  simp only [V.Rep] at hr
  obtain ⟨b, o₁, cap, hb, rfl, hcap, ho₁⟩ := hr
  split at hv
  ·rename_i t ht
   unfold effClear at hv
   split at hv
   ·rename_i ti hti
    split at hv
    ·rename_i te r₀ xs hk hte hi
     split at hv
     ·rename_i e z he hz
      subst e
      by_cases hcd : l + n ≤ xs.length ∧ te.size = te.row.len ∧ w₀ = te.row.len
      ·rw [decide_eq_true hcd, cond_true] at hv
       simp only [one, Option.some.injEq, Prod.mk.injEq] at hv
       rw [← hv.1, ← hv.2]
       exact (clearRows_yields hE.env hs ho hc ht hti hk hte hi hz hcd.2.1 hcd.1 hy (fun hn => ⟨b, by rw [ho₁ hn, hcd.2.2], hb⟩)).runs
      ·rw [decide_eq_false hcd, cond_false] at hv; cases hv
     ·cases hv
    ·cases hv
   ·cases hv
  ·cases hv
 ·rename_i i
  obtain ⟨y, hy, hr⟩ := one_arg _ rfl
  split at hv
  ·rename_i r₁ xs₁ fz₁ t hi₁ ht
   simp only [V.Rep, OwnRep, hi₁] at hr
   unfold effClear at hv
   split at hv
   ·rename_i ti hti
    split at hv
    ·rename_i te r₀ xs hk hte hi
     rw [hi₁] at hi
     cases hi
     split at hv
     ·rename_i e z he hz
      subst e
      by_cases hcd : 0 + xs₁.length ≤ xs₁.length ∧ te.size = te.row.len ∧ te.row.len = te.row.len
      ·rw [decide_eq_true hcd, cond_true] at hv
       simp only [one, Option.some.injEq, Prod.mk.injEq] at hv
       rw [← hv.1, ← hv.2]
       rcases hr with ⟨h3, h4, ad, rfl⟩ | ⟨b, cap, c', T, h3, rfl, h5, h6, h7⟩
       ·subst h4
        exact (clearRows_yields hE.env hs ho hc ht hti hk hte hi₁ hz hcd.2.1 hcd.1 hy (fun hn => absurd hn (by simp))).runs
       ·exact (clearRows_yields hE.env hs ho hc ht hti hk hte hi₁ hz hcd.2.1 hcd.1 hy (fun hn => ⟨b, by rw [Nat.zero_mul], h3⟩)).runs
      ·rw [decide_eq_false hcd, cond_false] at hv; cases hv
     ·cases hv
    ·cases hv
   ·cases hv
  ·cases hv
 ·cases hv
theorem call_runs (hE : Ready P E) (hgl : E.gl = gl) (hs : SOk gl w A η fr h a.tmps) (hm : m ≤ nx) {c : Call} (ho : o.op = .call c)
  (hv : effCall E fr h nx o.dst one c = some (v, up)) : Runs P gl m w A η h a o v up := by
 unfold effCall at hv
 split at hv
 ·rename_i b hc
  split at hv
  ·rename_i vs he
   exact builtin_runs hE hgl hs hm ho hc he hv
  ·cases hv
 ·rename_i f hc
  split at hv
  ·rename_i g x y vs d hf hvs hd
   obtain ⟨h1, h2⟩ := ev_rep hgl hs hf
   obtain ⟨h3, h4⟩ := evs_rep hgl hs hvs
   simp only [V.Rep] at h1
   obtain ⟨p, q, he, h5, h6⟩ := h1
   cases hfb : decide (g < 1000000000) with
   | false => rw [hfb] at hv; cases hv
   | true =>
   rw [hfb, cond_true] at hv
   intro Q K hK
   have hx : (execOp a.eval o).run P w = (callV g (p ++ c.args.map a.eval ++ q)).run P w := by
    unfold callV
    rw [if_pos (of_decide_eq_true hfb)]
    simp only [execOp, ho, resolve, hc, he, Deferred.ofValue, Sem.run_bind, Sem.run_pure, Result.andThen_ok, invoke]
   rw [hx]
   refine hE.calls gl m w A η h (nx + 64 * d) g (x ++ vs ++ y) v up hgl hs.heap (by omega) hv _ ?_ ?_ o a Q K hK
   ·simp only [Array.toList_append, Array.toList_map]
    exact (h5.append h3).append h6
   ·intro i hi
    rw [V.idsL_append, V.idsL_append] at hi
    simp only [List.mem_append] at hi
    rcases hi with (hi | hi) | hi
    ·exact h2 i (by simp [V.ids, hi])
    ·exact h4 i hi
    ·exact h2 i (by simp [V.ids, hi])
  ·rename_i i vs d hf hvs hd
   obtain ⟨h1, h2⟩ := ev_rep hgl hs hf
   obtain ⟨h3, h4⟩ := evs_rep hgl hs hvs
   split at hv
   ·rename_i y fr₀ st hi
    have h1' := h1
    simp only [V.Rep] at h1
    obtain ⟨l, hl, he⟩ := h1
    intro Q K hK
    have hx : (execOp a.eval o).run P w = (callV (1000000000 + y) (#[.func (.yield l) #[] #[]] ++ c.args.map a.eval)).run P w := by
     unfold callV
     rw [if_neg (by omega)]
     have e1 : (#[Value.func (.yield l) #[] #[]] ++ c.args.map a.eval).toList = Value.func (.yield l) #[] #[] :: (c.args.map a.eval).toList := by simp
     rw [e1]
     simp only [execOp, ho, resolve, hc, he, Deferred.ofValue, Sem.run_bind, Sem.run_pure, Result.andThen_ok, invoke]
     rw [show (#[] : Array Value) ++ c.args.map a.eval = (c.args.map a.eval).toList.toArray from Array.toList_inj.1 (by simp)]
    rw [hx]
    refine hE.calls gl m w A η h (nx + 64 * d) (1000000000 + y) (.yld i :: vs) v up hgl hs.heap (by omega) hv _ ?_ ?_ o a Q K hK
    ·simp only [V.RepL]
     exact ⟨.func (.yield l) #[] #[], (c.args.map a.eval).toList, by simp, by rw [he] at h1'; exact h1', by simpa using h3⟩
    ·intro j hj
     simp only [V.idsL, List.mem_append] at hj
     exact hj.elim (h2 j) (h4 j)
   ·cases hv
  ·cases hv
 ·cases hv
theorem veff_runs (hE : Ready P E) (hgl : E.gl = gl) (hs : SOk gl w A η fr h a.tmps) (hm : m ≤ nx) (hv : veff E fr h nx o one = some (v, up)) : Runs P gl m w A η h a o v up := by
 have henv := hE.env
 unfold veff at hv
 split at hv
 case h_1 x ho => exact goal_runs (eff := fun S kk => effMove E fr kk x) (move_yields hgl hs (.inl ho) hv) hv
 case h_2 x ho => exact goal_runs (eff := fun S kk => effMove E fr kk x) (move_yields hgl hs (.inr ho) hv) hv
 case h_3 ho => exact goal_runs (pick_yields hgl hs ho hv) hv
 case h_4 ho => exact goal_runs (alloc_yields henv hs hm ho hv) hv
 case h_5 ho => exact goal_runs (box_yields hgl hs hm ho hv) hv
 case h_6 ho => exact goal_runs (build_yields henv hgl hs ho hv) hv
 case h_7 ho => exact goal_runs (buildSlice_yields henv hgl hs hm ho hv) hv
 case h_8 ho => exact goal_runs (load_yields henv hgl hs ho hv) hv
 case h_9 ho => exact goal_runs (store_yields henv hgl hs ho hv) hv
 case h_10 ho => exact goal_runs (nil_yields hgl hs ho hv) hv
 case h_11 ho => exact goal_runs (bin_yields henv hgl hs ho hv) hv
 case h_12 ho => exact goal_runs (un_yields hgl hs ho hv) hv
 case h_13 ho => exact goal_runs (convert_yields henv hgl hs ho hv) hv
 case h_14 ho => exact goal_runs (func_yields hgl hs ho hv) hv
 case h_15 ho => exact goal_runs (iface_yields henv hgl hs ho hv) hv
 case h_16 ho => exact goal_runs (makeMap_yields henv hs hm ho hv) hv
 case h_17 ho => exact goal_runs (makeSlice_yields henv hgl hs hm ho hv) hv
 case h_18 ho => exact goal_runs (slice_yields henv hgl hs ho hv) hv
 case h_19 ho => exact goal_runs (fieldAddr_yields henv hgl hs ho hv) hv
 case h_20 ho => exact goal_runs (field_yields henv hgl hs ho hv) hv
 case h_21 ho => exact goal_runs (indexAddr_yields henv hgl hs ho hv) hv
 case h_22 ho => exact goal_runs (index_yields henv hgl hs ho hv) hv
 case h_23 ho => exact goal_runs (lookup_yields henv hgl hs ho hv) hv
 case h_24 t m x y ho => exact goal_runs (eff := fun S kk => effUpdate E fr h kk t m x y) (update_yields henv hgl hs (.inl ho) hv) hv
 case h_25 t m x y ho => exact goal_runs (eff := fun S kk => effUpdate E fr h kk t m x y) (update_yields henv hgl hs (.inr ho) hv) hv
 case h_26 ho => exact goal_runs (extract_yields hgl hs ho hv) hv
 case h_27 ho => exact goal_runs (range_yields henv hgl hs hm ho hv) hv
 case h_28 ho => exact goal_runs (next_yields hgl hs ho hv) hv
 case h_29 ho => exact goal_runs (entry_yields hgl hs ho hv) hv
 case h_30 ho => exact call_runs hE hgl hs hm ho hv
 case h_31 ho => exact goal_runs (mapEntry_yields henv hgl hs hm ho hv) hv
 case h_32 ho => exact goal_runs (entryStore_yields hgl hs ho hv) hv
 case h_33 => cases hv
theorem veff_nodefer (hv : veff E fr h nx o one = some (v, up)) : ∀ c, o.op ≠ .defer c := by
 intro c e
 unfold veff at hv
 rw [e] at hv
 cases hv
end
end Vm
namespace Vm
open Go
def putFn (fr : Nat → Option V) (dst : Option Nat) (v : V) : Nat → Option V := match dst with
 | none => fr
 | some d => fun t => if d = t then some v else fr t
theorem look_putF (fr : List (Nat × V)) (dst : Option Nat) (v : V) : look (putF fr dst v) = putFn (look fr) dst v := by
 cases dst with
 | none => rfl
 | some d => funext t; simp only [putF, putFn, look]
def gsays (all : Array Oper) (o : Oper) (fr : Nat → Option V) : Option Bool := match o.guard with
 | none => some true
 | some (g, want) => match gdst all g with
   | none => none
   | some d => match fr d with
     | some (.bool b) => some (b == want)
     | some .undef => some false
     | _ => none
def AOk (nt : Nat) (ds : List Deferred) (a : Act) : Prop := a.tmps.size = nt ∧ a.defers = ds
theorem AOk.put {nt : Nat} {ds : List Deferred} {a : Act} (h : AOk nt ds a) (dst : Option Nat) (c : Value) : AOk nt ds (a.put dst c) := by
 cases dst with
 | none => exact h
 | some d => exact ⟨by simpa [Act.put] using h.1, by simpa [Act.put] using h.2⟩
section
variable {P : Program} {E : Env} {gl : Gl} {m : Nat} {w w' : World} {A A' : ASet} {η η' : Nat → Option Nat} {fr : Nat → Option V} {h h' : Nat → Option Ob} {a : Act} {o : Oper} {v : V} {up : List (Nat × Ob)} {nx nt : Nat}
theorem SOk.step {dst : Option Nat} {c : Value} (hs : SOk gl w A η fr h a.tmps) (st : HStep gl m w A η h w' A' η' h') (hv : V.Rep w' A' η' h' v c) (hd : ∀ i ∈ v.ids, h' i ≠ none) (hdst : ∀ d, dst = some d → d < a.tmps.size) :
  SOk gl w' A' η' (putFn fr dst v) h' (a.put dst c).tmps := by
 refine ⟨st.ok, fun t u hu => ?_⟩
 have old : ∀ t u, fr t = some u → (∃ c, a.tmps[t]? = some c ∧ V.Rep w' A' η' h' u c) ∧ ∀ i ∈ u.ids, h' i ≠ none := fun t u hu => by
  obtain ⟨⟨c, h1, h2⟩, h3⟩ := hs.fr t u hu
  exact ⟨⟨c, h1, st.rep h3 h2⟩, fun i hi => st.dom i (h3 i hi)⟩
 cases dst with
 | none => exact old t u hu
 | some d =>
   simp only [putFn] at hu
   simp only [Act.put]
   split at hu
   ·rename_i e
    subst e
    cases hu
    exact ⟨⟨c, by simp [hdst d rfl], hv⟩, hd⟩
   ·rename_i e
    obtain ⟨⟨c', h1, h2⟩, h3⟩ := old t u hu
    exact ⟨⟨c', by rw [Array.getElem?_setIfInBounds_ne e]; exact h1, h2⟩, h3⟩
theorem gsays_wanted {all : Array Oper} (hs : SOk gl w A η fr h a.tmps) {b : Bool} (hg : gsays all o fr = some b) : Region.wanted o (yielded all a.tmps) = b := by
 unfold gsays at hg
 unfold Region.wanted
 split at hg
 ·rename_i e; rw [e]; cases hg; rfl
 ·rename_i g want e
  rw [e]
  dsimp only
  split at hg
  ·cases hg
  ·rename_i d hd
   have hd' : (all[g]?).bind (·.dst) = some d := by
    unfold gdst at hd
    split at hd
    ·rename_i o' ho'; rw [ho']; exact hd
    ·cases hd
   split at hg
   ·rename_i x hx
    obtain ⟨⟨c, h1, h2⟩, _⟩ := hs.fr d _ hx
    simp only [V.Rep] at h2
    subst h2
    cases hg
    unfold yielded
    rw [hd', Option.bind_some, h1]
    cases x <;> cases want <;> rfl
   ·rename_i hx
    obtain ⟨⟨c, h1, h2⟩, _⟩ := hs.fr d _ hx
    simp only [V.Rep] at h2
    subst h2
    cases hg
    unfold yielded
    rw [hd', Option.bind_some, h1]
    rfl
   ·cases hg
end
section
variable (E : Env) (all : Array Oper) (nx : Nat)
abbrev Pair := (Nat → Option V) × (Nat → Option Ob)
def tvalAt (p : Pair) (i : Nat) : Option Kp := match all[i]? with
 | none => none
 | some o => match gsays all o p.1 with
   | some true => veff E p.1 p.2 nx o one
   | some false => some (.undef, [])
   | none => none
def tst (p : Pair) : Nat → Pair
 | 0 => p
 | i + 1 => match tvalAt E all nx (tst p i) i with
   | some (v, up) => (putFn (tst p i).1 (gdst all i) v, ups up (tst p i).2)
   | none => tst p i
def tval (p : Pair) (i : Nat) : Option Kp := tvalAt E all nx (tst E all nx p i) i
def fw (p : Pair) (t i : Nat) : Option V := match tval E all nx p i, gdst all i with
 | some x, some d => if d = t then some x.1 else none
 | _, _ => none
def fh (p : Pair) (j i : Nat) : Option Ob := match tval E all nx p i with
 | some x => look x.2 j
 | none => none
def frA (p : Pair) (l : List Nat) : Nat → Option V := fun t => wr (fw E all nx p t) l (p.1 t)
def hA (p : Pair) (l : List Nat) : Nat → Option Ob := fun j => wr (fh E all nx p j) l (p.2 j)
def foot (p : Pair) (i : Nat) : Option Foot := match all[i]? with
 | none => none
 | some o => match gsays all o (tst E all nx p i).1 with
   | some true => match veff E (tst E all nx p i).1 (tst E all nx p i).2 nx o one with
     | some x => some ⟨i, rds E (tst E all nx p i).1 (tst E all nx p i).2 o, x.2.map (·.1)⟩
     | none => none
   | _ => none
theorem frA_snoc (p : Pair) (l : List Nat) {i : Nat} {x : Kp} (hx : tval E all nx p i = some x) : frA E all nx p (l ++ [i]) = putFn (frA E all nx p l) (gdst all i) x.1 := by
 funext t
 unfold frA
 rw [wr_snoc]
 unfold fw
 rw [hx]
 cases gdst all i with
 | none => rfl
 | some d =>
   simp only [putFn]
   by_cases e : d = t
   ·simp only [e, if_true]
   ·simp only [e, if_false]
theorem hA_snoc (p : Pair) (l : List Nat) {i : Nat} {x : Kp} (hx : tval E all nx p i = some x) : hA E all nx p (l ++ [i]) = ups x.2 (hA E all nx p l) := by
 funext j
 unfold hA
 rw [wr_snoc]
 unfold fh ups
 rw [hx]
 dsimp only
 cases look x.2 j <;> rfl
theorem tst_eq (p : Pair) (i : Nat) : tst E all nx p i = (frA E all nx p (List.range i), hA E all nx p (List.range i)) := by
 induction i with
 | zero => rfl
 | succ i ih =>
   have e : tst E all nx p (i + 1) = match tval E all nx p i with
    | some (v, up) => (putFn (tst E all nx p i).1 (gdst all i) v, ups up (tst E all nx p i).2)
    | none => tst E all nx p i := rfl
   rw [e, List.range_succ]
   cases hx : tval E all nx p i with
   | none =>
     dsimp only
     rw [ih]
     congr 1
     ·funext t; unfold frA; rw [wr_snoc]; unfold fw; rw [hx]
     ·funext j; unfold hA; rw [wr_snoc]; unfold fh; rw [hx]
   | some x =>
     obtain ⟨v, up⟩ := x
     dsimp only
     rw [frA_snoc E all nx p _ hx, hA_snoc E all nx p _ hx, ih]
end
theorem drop_cons {α : Type} {l : List α} {i : Nat} {x : α} {r : List α} (h : l.drop i = x :: r) : l[i]? = some x ∧ l.drop (i + 1) = r ∧ i < l.length := by
 have h1 : i < l.length := by
  rcases Nat.lt_or_ge i l.length with h' | h'
  ·exact h'
  ·rw [List.drop_eq_nil_of_le h'] at h; cases h
 rw [List.drop_eq_getElem_cons h1] at h
 injection h with h2 h3
 exact ⟨by rw [List.getElem?_eq_getElem h1, h2], h3, h1⟩
section
variable {E : Env} {all : Array Oper} {nx : Nat} {R : Type} {r : R} {draw : Bool}
theorem look_again {α : Type} {l : List (Nat × α)} {d : Nat} {x : α} (h : look l d = some x) : look ((d, x) :: l) = look l := by
 funext t
 simp only [look]
 split
 ·rename_i e; rw [← e, h]
 ·rfl
theorem vops_text (hE : E.Nat) (p : Pair) (k : St → List Foot → Option R) : (l : List Oper) → (i : Nat) → (s : St) → (ft : List Foot) → l = all.toList.drop i →
  look s.fr = (tst E all nx p i).1 → look s.hp = (tst E all nx p i).2 → s.nx = nx → vops E all draw i l s ft k = some r →
  (∀ j, i ≤ j → j < all.size → ∃ x, tval E all nx p j = some x) ∧ ∃ s' ft', k s' ft' = some r ∧ look s'.fr = (tst E all nx p all.size).1 ∧ look s'.hp = (tst E all nx p all.size).2 ∧ s'.nx = nx ∧
    (draw = true → ft' = ft ++ (List.range' i (all.size - i)).filterMap (foot E all nx p))
 | [], i, s, ft, hl, h1, h2, h3, hv => by
   have hi : all.size ≤ i := by
    have := congrArg List.length hl
    simp at this
    omega
   simp only [vops] at hv
   have same : ∀ d, tst E all nx p (all.size + d) = tst E all nx p all.size := by
    intro d
    induction d with
    | zero => rfl
    | succ d ih =>
      rw [← Nat.add_assoc]
      have e : tst E all nx p (all.size + d + 1) = match tvalAt E all nx (tst E all nx p (all.size + d)) (all.size + d) with
       | some (v, up) => (putFn (tst E all nx p (all.size + d)).1 (gdst all (all.size + d)) v, ups up (tst E all nx p (all.size + d)).2)
       | none => tst E all nx p (all.size + d) := rfl
      rw [e]
      have : tvalAt E all nx (tst E all nx p (all.size + d)) (all.size + d) = none := by
       unfold tvalAt; rw [Array.getElem?_eq_none (by omega)]
      rw [this]
      exact ih
   have hs := same (i - all.size)
   rw [show all.size + (i - all.size) = i from by omega] at hs
   refine ⟨fun j h4 h5 => by omega, s, ft, hv, by rw [h1, hs], by rw [h2, hs], h3, fun _ => ?_⟩
   rw [show all.size - i = 0 from by omega]
   simp
 | o :: l, i, s, ft, hl, h1, h2, h3, hv => by
   obtain ⟨ho, hl', hi⟩ := drop_cons hl.symm
   have ho' : all[i]? = some o := by simpa using ho
   have hg : gdst all i = o.dst := by unfold gdst; rw [ho']
   have hi' : i < all.size := by simpa using hi
   have next : ∀ (x : Kp) (s₁ : St) (ft₁ : List Foot), tval E all nx p i = some x → look s₁.fr = putFn (look s.fr) o.dst x.1 → look s₁.hp = ups x.2 (look s.hp) → s₁.nx = nx →
     (draw = true → ft₁ = ft ++ (foot E all nx p i).toList) → vops E all draw (i + 1) l s₁ ft₁ k = some r →
     (∀ j, i ≤ j → j < all.size → ∃ x, tval E all nx p j = some x) ∧ ∃ s' ft', k s' ft' = some r ∧ look s'.fr = (tst E all nx p all.size).1 ∧ look s'.hp = (tst E all nx p all.size).2 ∧ s'.nx = nx ∧
       (draw = true → ft' = ft ++ (List.range' i (all.size - i)).filterMap (foot E all nx p)) := by
    intro x s₁ ft₁ hx g1 g2 g3 g4 hv'
    have e : tst E all nx p (i + 1) = (putFn (tst E all nx p i).1 (gdst all i) x.1, ups x.2 (tst E all nx p i).2) := by
     have : tst E all nx p (i + 1) = match tval E all nx p i with
      | some (v, up) => (putFn (tst E all nx p i).1 (gdst all i) v, ups up (tst E all nx p i).2)
      | none => tst E all nx p i := rfl
     rw [this, hx]
    obtain ⟨a1, s', ft', a2, a3, a4, a5, a6⟩ := vops_text hE p k l (i + 1) s₁ ft₁ hl'.symm (by rw [g1, e, hg, h1]) (by rw [g2, e, h2]) g3 hv'
    refine ⟨fun j h4 h5 => ?_, s', ft', a2, a3, a4, a5, fun hd => ?_⟩
    ·by_cases hj : j = i
     ·subst hj; exact ⟨x, hx⟩
     ·exact a1 j (by omega) h5
    ·rw [a6 hd, g4 hd, show all.size - i = (all.size - (i + 1)) + 1 from by omega, List.range'_succ, List.append_assoc]
     congr 1
     cases hf : foot E all nx p i with
     | none => rw [List.filterMap_cons_none hf]; rfl
     | some f => rw [List.filterMap_cons_some hf]; rfl
   have go : ∀ fr₁, look fr₁ = look s.fr → gsays all o (look s.fr) = some true →
     (veff E (look fr₁) (look s.hp) s.nx o fun v up => vops E all draw (i + 1) l ⟨putF fr₁ o.dst v, up ++ s.hp, s.nx⟩ (if draw then ft ++ [⟨i, rds E (look fr₁) (look s.hp) o, up.map (·.1)⟩] else ft) k) = some r →
     (∀ j, i ≤ j → j < all.size → ∃ x, tval E all nx p j = some x) ∧ ∃ s' ft', k s' ft' = some r ∧ look s'.fr = (tst E all nx p all.size).1 ∧ look s'.hp = (tst E all nx p all.size).2 ∧ s'.nx = nx ∧
       (draw = true → ft' = ft ++ (List.range' i (all.size - i)).filterMap (foot E all nx p)) := by
    intro fr₁ hf hgs hv'
    rw [veff_thn hE, hf] at hv'
    cases hx : veff E (look s.fr) (look s.hp) s.nx o one with
    | none => rw [hx] at hv'; cases hv'
    | some x =>
      rw [hx] at hv'
      have ht : tval E all nx p i = some x := by
       unfold tval tvalAt
       rw [ho']
       dsimp only
       rw [← h1, hgs]
       dsimp only
       rw [← h2, ← h3, hx]
      refine next x ⟨putF fr₁ o.dst x.1, x.2 ++ s.hp, s.nx⟩ _ ht ?_ ?_ h3 ?_ hv'
      ·show look (putF fr₁ o.dst x.1) = _
       rw [look_putF, hf]
      ·show look (x.2 ++ s.hp) = _
       rw [ups_look]
      ·intro hd
       rw [if_pos hd]
       have : foot E all nx p i = some ⟨i, rds E (look s.fr) (look s.hp) o, x.2.map (·.1)⟩ := by
        unfold foot
        rw [ho']
        dsimp only
        rw [← h1, hgs]
        dsimp only
        rw [← h2, ← h3, hx]
       rw [this]
       rfl
   have skip : ∀ fr₁, look fr₁ = look s.fr → gsays all o (look s.fr) = some false → vops E all draw (i + 1) l ⟨putF fr₁ o.dst .undef, s.hp, s.nx⟩ ft k = some r →
     (∀ j, i ≤ j → j < all.size → ∃ x, tval E all nx p j = some x) ∧ ∃ s' ft', k s' ft' = some r ∧ look s'.fr = (tst E all nx p all.size).1 ∧ look s'.hp = (tst E all nx p all.size).2 ∧ s'.nx = nx ∧
       (draw = true → ft' = ft ++ (List.range' i (all.size - i)).filterMap (foot E all nx p)) := by
    intro fr₁ hf hgs hv'
    have ht : tval E all nx p i = some (.undef, []) := by
     unfold tval tvalAt
     rw [ho']
     dsimp only
     rw [← h1, hgs]
    refine next _ ⟨putF fr₁ o.dst .undef, s.hp, s.nx⟩ _ ht ?_ ?_ h3 ?_ hv'
    ·show look (putF fr₁ o.dst .undef) = _
     rw [look_putF, hf]
    ·rfl
    ·intro hd
     have : foot E all nx p i = none := by
      unfold foot
      rw [ho']
      dsimp only
      rw [← h1, hgs]
     rw [this]
     simp
   simp only [vops] at hv
   split at hv
   ·rename_i e
    exact go _ rfl (by unfold gsays; rw [e]) hv
   ·rename_i g want e
    split at hv
    ·cases hv
    ·rename_i d hd
     split at hv
     ·rename_i b hb
      have hgs : gsays all o (look s.fr) = some (b == want) := by unfold gsays; rw [e]; dsimp only; rw [hd]; dsimp only; rw [hb]
      have hl2 := look_again hb
      cases b <;> cases want <;> simp only [cond_true, cond_false] at hv
      ·exact go _ hl2 hgs hv
      ·exact skip _ hl2 hgs hv
      ·exact skip _ hl2 hgs hv
      ·exact go _ hl2 hgs hv
     ·rename_i hb
      exact skip _ rfl (by unfold gsays; rw [e]; dsimp only; rw [hd]; dsimp only; rw [hb]) hv
     ·cases hv
end
end Vm
namespace Vm
open Go
abbrev FR (ρ : Option Nat) : Fence := { Fence.wide with round := ρ }
theorem upon_round {P : Program} {ρ : Option Nat} {o : Oper} {a : Act} {K : Act → World → Prop} {Q : Exit → Act → World → Prop} {r : Result Next} (h : o.uponIn Fence.wide 0 P a K Q r) : o.uponIn (FR ρ) 0 P a K Q r := by
 cases r with
 | ok n w => cases n <;> exact h
 | halt x w => cases x <;> exact h
section
variable {P : Program} {E : Env} {gl : Gl} {m : Nat} {all : Array Oper} {nx nt : Nat} {ds : List Deferred} {ρ : Option Nat} {Q : Exit → Act → World → Prop}
theorem dstsB_spec (hd : dstsB nt all = true) {i : Nat} {o : Oper} (ho : all[i]? = some o) {d : Nat} (e : o.dst = some d) : d < nt := by
 unfold dstsB at hd
 rw [List.all_eq_true] at hd
 have := hd o (by simpa using Array.mem_of_getElem? ho)
 rw [e] at this
 simpa using this
theorem gdst_of {i : Nat} {o : Oper} (ho : all[i]? = some o) : gdst all i = o.dst := by unfold gdst; rw [ho]
theorem op_sound (hE : Ready P E) (hgl : E.gl = gl) (hm : m ≤ nx) (hd : dstsB nt all = true) {i : Nat} {o : Oper} (ho : all[i]? = some o) {fr : Nat → Option V} {h : Nat → Option Ob} {x : Kp}
  (hx : (gsays all o fr = some true ∧ veff E fr h nx o one = some x) ∨ (gsays all o fr = some false ∧ x = (.undef, []))) {w : World} {A : ASet} {η : Nat → Option Nat} {a : Act} (hs : SOk gl w A η fr h a.tmps) (ha : AOk nt ds a)
  {K : Act → World → Prop} (hK : ∀ a' w' A' η', HStep gl m w A η h w' A' η' (ups x.2 h) → SOk gl w' A' η' (putFn fr o.dst x.1) (ups x.2 h) a'.tmps → AOk nt ds a' → K a' w') : wpOpIn (FR ρ) 0 P all Q i K a w := by
 have hdst : ∀ d, o.dst = some d → d < a.tmps.size := fun d e => by rw [ha.1]; exact dstsB_spec hd ho e
 unfold wpOpIn
 rw [ho]
 dsimp only
 rcases hx with ⟨hg, hv⟩ | ⟨hg, rfl⟩
 ·rw [gsays_wanted hs hg, if_pos rfl]
  refine ⟨fun _ _ => trivial, ?_⟩
  rw [Oper.semAt_eq _ _ _ (veff_nodefer hv)]
  exact upon_round (veff_runs hE hgl hs hm hv Q K fun c w' A' η' st hr hdom => hK _ _ _ _ st (hs.step st hr hdom hdst) (ha.put _ _))
 ·rw [gsays_wanted hs hg, if_neg (by simp)]
  exact ⟨fun _ _ => trivial, hK _ _ A η (.refl hs.heap) (hs.step (m := m) (.refl hs.heap) (by simp [V.Rep]) (by simp [V.ids]) hdst) (ha.put _ _)⟩
theorem tval_cases {p : Pair} {i : Nat} {o : Oper} {x : Kp} (ho : all[i]? = some o) (hx : tval E all nx p i = some x) :
  (gsays all o (tst E all nx p i).1 = some true ∧ veff E (tst E all nx p i).1 (tst E all nx p i).2 nx o one = some x) ∨ (gsays all o (tst E all nx p i).1 = some false ∧ x = (.undef, [])) := by
 unfold tval tvalAt at hx
 rw [ho] at hx
 dsimp only at hx
 split at hx
 ·exact .inl ⟨by assumption, hx⟩
 ·cases hx; exact .inr ⟨by assumption, rfl⟩
 ·cases hx
theorem text_sound (hE : Ready P E) (hgl : E.gl = gl) (hm : m ≤ nx) (hd : dstsB nt all = true) (p : Pair) {lo : Nat} (hall : ∀ j, lo ≤ j → j < all.size → ∃ x, tval E all nx p j = some x) :
  (n i : Nat) → lo ≤ i → i + n = all.size → ∀ (w : World) (A : ASet) (η : Nat → Option Nat) (a : Act), SOk gl w A η (tst E all nx p i).1 (tst E all nx p i).2 a.tmps → AOk nt ds a →
    (∀ a' w' A' η', HStep gl m w A η (tst E all nx p i).2 w' A' η' (tst E all nx p all.size).2 → SOk gl w' A' η' (tst E all nx p all.size).1 (tst E all nx p all.size).2 a'.tmps → AOk nt ds a' → Q .normal a' w') →
    wpOpsIn (FR ρ) 0 P all Q (List.range' i n) a w
 | 0, i, hlo, hi, w, A, η, a, hs, ha, hQ => by
   simp only [Nat.add_zero] at hi
   subst hi
   exact hQ a w A η (.refl hs.heap) hs ha
 | n + 1, i, hlo, hi, w, A, η, a, hs, ha, hQ => by
   rw [List.range'_succ, wpOpsIn_cons]
   obtain ⟨x, hx⟩ := hall i hlo (by omega)
   have ho : all[i]? = some all[i] := by simp [show i < all.size by omega]
   have e : tst E all nx p (i + 1) = (putFn (tst E all nx p i).1 (gdst all i) x.1, ups x.2 (tst E all nx p i).2) := by
    have : tst E all nx p (i + 1) = match tval E all nx p i with
     | some (v, up) => (putFn (tst E all nx p i).1 (gdst all i) v, ups up (tst E all nx p i).2)
     | none => tst E all nx p i := rfl
    rw [this, hx]
   refine op_sound hE hgl hm hd ho (tval_cases ho hx) hs ha fun a' w' A' η' st hs' ha' => ?_
   refine text_sound hE hgl hm hd p hall n (i + 1) (by omega) (by omega) w' A' η' a' (by rw [e, gdst_of ho]; exact hs') ha' fun a₂ w₂ A₂ η₂ st₂ hs₂ ha₂ => hQ a₂ w₂ A₂ η₂ (st.trans' ?_) hs₂ ha₂
   rw [e] at st₂
   exact st₂
theorem slotsB_spec (hsl : slotsB all (ancs all.toList []) = true) {i j : Nat} (hij : i < j) {oi oj : Oper} (hi : all[i]? = some oi) (hj : all[j]? = some oj) : Anc all i j ∨ oi.apart all oj = true := by
 unfold slotsB at hsl
 rw [List.all_eq_true] at hsl
 have h1 := hsl j (by simp; exact (Array.getElem?_eq_some_iff.1 hj).1)
 rw [List.all_eq_true] at h1
 have h2 := h1 i (by simpa using hij)
 simp only [hi, hj, Bool.or_eq_true] at h2
 exact h2
theorem footsOk_spec {an : List Nat} : {l : List Foot} → footsOk an l = true → l.Pairwise fun x y => (an.getD y.i 0).testBit x.i = true ∨ apartB x y = true
 | [], _ => .nil
 | x :: l, hf => by
   simp only [footsOk, Bool.and_eq_true, List.all_eq_true, Bool.or_eq_true] at hf
   exact List.pairwise_cons.2 ⟨fun y hy => hf.1 y hy, footsOk_spec hf.2⟩
theorem foot_i {p : Pair} {i : Nat} {f : Foot} (hf : foot E all nx p i = some f) : f.i = i ∧ i < all.size := by
 unfold foot at hf
 split at hf
 ·cases hf
 ·rename_i o ho
  split at hf
  ·split at hf
   ·cases hf; exact ⟨rfl, (Array.getElem?_eq_some_iff.1 ho).1⟩
   ·cases hf
  ·cases hf
theorem feet_apart {p : Pair} (hf : footsOk (ancs all.toList []) ((List.range' 0 all.size).filterMap (foot E all nx p)) = true) {i j : Nat} (hij : i < j) {x y : Foot} (hx : foot E all nx p i = some x) (hy : foot E all nx p j = some y) :
  Anc all i j ∨ apartB x y = true := by
 have h1 := List.pairwise_filterMap.1 (footsOk_spec hf)
 have h2 : (List.range' 0 all.size).Pairwise (· < ·) := List.pairwise_lt_range'
 have h3 : ∀ a ∈ List.range' 0 all.size, ∀ b ∈ List.range' 0 all.size, a < b → ∀ x, foot E all nx p a = some x → ∀ y, foot E all nx p b = some y → (((ancs all.toList []).getD y.i 0).testBit x.i = true ∨ apartB x y = true) := by
  intro a ha b hb hab
  rw [List.pairwise_iff_getElem] at h1
  simp only [List.mem_range'_1] at ha hb
  have := h1 a b (by simp; omega) (by simp; omega) hab
  intro x hx y hy
  simp only [List.getElem_range', Nat.zero_add, Nat.one_mul] at this
  exact this x hx y hy
 have := h3 i (by simp; exact (foot_i hx).2) j (by simp; exact (foot_i hy).2) hij x hx y hy
 rw [(foot_i hx).1, (foot_i hy).1] at this
 exact this
theorem nodup_len : (l m : List Nat) → l.Nodup → l ⊆ m → l.length ≤ m.length
 | [], _, _, _ => Nat.zero_le _
 | i :: l, m, hn, hs => by
   have h1 := List.nodup_cons.1 hn
   have hi : i ∈ m := hs (by simp)
   have := nodup_len l (m.erase i) h1.2 fun j hj => by
    have hne : j ≠ i := fun e => h1.1 (e ▸ hj)
    exact (List.mem_erase_of_ne hne).2 (hs (by simp [hj]))
   rw [List.length_erase_of_mem hi] at this
   have hpos : 0 < m.length := List.length_pos_of_mem hi
   simp only [List.length_cons]
   omega
section draw
variable {p : Pair} (hall : ∀ j, j < all.size → ∃ x, tval E all nx p j = some x) (hab : afterB all = true) (hsl : slotsB all (ancs all.toList []) = true)
 (hft : footsOk (ancs all.toList []) ((List.range' 0 all.size).filterMap (foot E all nx p)) = true)
include hsl
theorem fw_spec {t j : Nat} (hj : (fw E all nx p t j).isSome = true) : ∃ o, all[j]? = some o ∧ o.dst = some t := by
 have _ := hsl
 unfold fw at hj
 split at hj
 ·rename_i x d hx hd
  split at hj
  ·rename_i e
   subst e
   unfold gdst at hd
   split at hd
   ·exact ⟨_, by assumption, hd⟩
   ·cases hd
  ·cases hj
 ·cases hj
theorem slot_pair {t j k : Nat} (hj : (fw E all nx p t j).isSome = true) (hk : (fw E all nx p t k).isSome = true) (hjk : j ≠ k) : Anc all j k ∨ Anc all k j := by
 obtain ⟨oj, h1, h2⟩ := fw_spec hsl hj
 obtain ⟨ok, h3, h4⟩ := fw_spec hsl hk
 rcases Nat.lt_or_gt_of_ne hjk with hlt | hlt
 ·rcases slotsB_spec hsl hlt h1 h3 with h | h
  ·exact .inl h
  ·exact ((Oper.apart_spec h).2.1 t h2 h4).elim
 ·rcases slotsB_spec hsl hlt h3 h1 with h | h
  ·exact .inr h
  ·exact ((Oper.apart_spec h).2.1 t h4 h2).elim
theorem slot_look {t i j : Nat} {o : Oper} (ho : all[i]? = some o) (ht : t ∈ o.looksAt all) (hj : (fw E all nx p t j).isSome = true) (hji : j ≠ i) : Anc all i j ∨ Anc all j i := by
 obtain ⟨oj, h1, h2⟩ := fw_spec hsl hj
 rcases Nat.lt_or_gt_of_ne hji with hlt | hlt
 ·rcases slotsB_spec hsl hlt h1 ho with h | h
  ·exact .inr h
  ·exact ((Oper.apart_spec h).1 t h2 ht).elim
 ·rcases slotsB_spec hsl hlt ho h1 with h | h
  ·exact .inl h
  ·exact ((Oper.apart_spec h).2.2 t h2 ht).elim
omit hsl
include hall hft
theorem fh_spec {x j : Nat} (hj : (fh E all nx p x j).isSome = true) : ∃ f, foot E all nx p j = some f ∧ x ∈ f.w := by
 have _ := hall
 have _ := hft
 unfold fh at hj
 split at hj
 ·rename_i q hq
  cases ho : all[j]? with
  | none => unfold tval tvalAt at hq; rw [ho] at hq; cases hq
  | some o =>
    rcases tval_cases ho hq with ⟨h1, h2⟩ | ⟨h1, rfl⟩
    ·refine ⟨⟨j, rds E (tst E all nx p j).1 (tst E all nx p j).2 o, q.2.map (·.1)⟩, ?_, ?_⟩
     ·unfold foot; rw [ho]; dsimp only; rw [h1]; dsimp only; rw [h2]
     ·have : ∀ l : List (Nat × Ob), (look l x).isSome = true → x ∈ l.map (·.1) := by
        intro l
        induction l with
        | nil => intro h; simp [look] at h
        | cons y l ih =>
          obtain ⟨y, z⟩ := y
          intro h
          simp only [look] at h
          split at h
          ·rename_i e; simp [e]
          ·simp only [List.map_cons, List.mem_cons]; exact .inr (ih h)
      exact this _ hj
    ·simp [look] at hj
 ·cases hj
theorem ob_apart {x i j : Nat} {fi : Foot} (hi : foot E all nx p i = some fi) (hx : x ∈ fi.r ∨ x ∈ fi.w) (hj : (fh E all nx p x j).isSome = true) (hji : j ≠ i) : Anc all i j ∨ Anc all j i := by
 obtain ⟨fj, h1, h2⟩ := fh_spec hall hft hj
 rcases Nat.lt_or_gt_of_ne hji with hlt | hlt
 ·rcases feet_apart hft hlt h1 hi with h | h
  ·exact .inr h
  ·unfold apartB at h
   simp only [Bool.and_eq_true, Bool.not_eq_true', List.any_eq_false, Bool.or_eq_true, not_or, List.contains_iff_mem] at h
   rcases hx with hx | hx
   ·exact ((h.1 x h2).1 hx).elim
   ·exact ((h.1 x h2).2 hx).elim
 ·rcases feet_apart hft hlt hi h1 with h | h
  ·exact .inl h
  ·unfold apartB at h
   simp only [Bool.and_eq_true, Bool.not_eq_true', List.any_eq_false, Bool.or_eq_true, not_or, List.contains_iff_mem] at h
   rcases hx with hx | hx
   ·exact (h.2 x h2 hx).elim
   ·exact ((h.1 x hx).2 h2).elim
theorem ob_pair {x j k : Nat} (hj : (fh E all nx p x j).isSome = true) (hk : (fh E all nx p x k).isSome = true) (hjk : j ≠ k) : Anc all j k ∨ Anc all k j := by
 obtain ⟨fj, h1, h2⟩ := fh_spec hall hft hj
 exact ob_apart hall hft h1 (.inr h2) hk (Ne.symm hjk)
include hab hsl
theorem ready_val (hE : E.Nat) {l : List Nat} (hl : Sched (Anc all) l) {i : Nat} {o : Oper} (ho : all[i]? = some o) (hi : i ∉ l) (ha : ∀ j, Anc all j i → j ∈ l) {x : Kp} (hx : tval E all nx p i = some x) :
  (gsays all o (frA E all nx p l) = some true ∧ veff E (frA E all nx p l) (hA E all nx p l) nx o one = some x) ∨ (gsays all o (frA E all nx p l) = some false ∧ x = (.undef, [])) := by
 have hlt := fun j i => Anc.lt hab i j
 have slot : ∀ t ∈ o.looksAt all, frA E all nx p l t = (tst E all nx p i).1 t := fun t ht => by
  rw [tst_eq]
  exact wr_ready hlt hl hi ha (fun j k => slot_pair hsl) fun j hj hji => slot_look hsl ho ht hj hji
 have hops : ∀ y ∈ o.op.operands, ev E (frA E all nx p l) y = ev E (tst E all nx p i).1 y := fun y hy => by
  cases y with
  | tmp t => exact slot t (List.mem_append_left _ (List.mem_filterMap.2 ⟨.tmp t, by simpa using hy, rfl⟩))
  | _ => rfl
 have hgs : gsays all o (frA E all nx p l) = gsays all o (tst E all nx p i).1 := by
  unfold gsays
  cases hg : o.guard with
  | none => rfl
  | some gw =>
    obtain ⟨g, want⟩ := gw
    dsimp only
    cases hd : gdst all g with
    | none => rfl
    | some d =>
      dsimp only
      rw [slot d]
      refine List.mem_append_right _ ?_
      rw [hg]
      unfold gdst at hd
      split at hd
      ·rename_i o' ho'
       simp [ho', hd]
      ·cases hd
 rw [hgs]
 rcases tval_cases ho hx with ⟨h1, h2⟩ | ⟨h1, h2⟩
 ·refine .inl ⟨h1, ?_⟩
  have hfoot : foot E all nx p i = some ⟨i, rds E (tst E all nx p i).1 (tst E all nx p i).2 o, x.2.map (·.1)⟩ := by
   unfold foot; rw [ho]; dsimp only; rw [h1]; dsimp only; rw [h2]
  have same : ∀ y, (y ∈ rds E (tst E all nx p i).1 (tst E all nx p i).2 o ∨ y ∈ x.2.map (·.1)) → (tst E all nx p i).2 y = hA E all nx p l y := fun y hy => by
   rw [tst_eq]
   exact (wr_ready hlt hl hi ha (fun j k => ob_pair hall hft) fun j hj hji => ob_apart hall hft hfoot hy hj hji).symm
  rw [(veff_fr o hops one).1]
  exact veff_hp hE o h2 (fun y hy => same y (.inl hy)) fun y hy => same y (.inr hy)
 ·exact .inr ⟨h1, h2⟩
theorem draw_sound (hE : Ready P E) (hgl : E.gl = gl) (hm : m ≤ nx) (hd : dstsB nt all = true) :
  (fuel : Nat) → (l : List Nat) → (listed : Array Bool) → Sched (Anc all) l → l.Nodup → listed.size = all.size → (∀ i, i < all.size → (listed.getD i true = true ↔ i ∈ l)) → (∀ i ∈ l, i < all.size) → l.length + fuel = all.size →
    ∀ (w : World) (A : ASet) (η : Nat → Option Nat) (a : Act), SOk gl w A η (frA E all nx p l) (hA E all nx p l) a.tmps → AOk nt ds a →
    (∀ a' w' A' η', HStep gl m w A η (hA E all nx p l) w' A' η' (tst E all nx p all.size).2 → SOk gl w' A' η' (tst E all nx p all.size).1 (tst E all nx p all.size).2 a'.tmps → AOk nt ds a' → Q .normal a' w') →
    wpAnyIn (FR ρ) 0 P .any all Q fuel listed a w := by
 intro fuel
 induction fuel with
 | zero =>
   intro l listed hl hnd hsz hli hlt hlen w A η a hs ha hQ
   have full : ∀ i, i ∈ l ↔ i < all.size := fun i => ⟨hlt i, fun hi => by
    refine Classical.byContradiction fun hc => ?_
    have := nodup_len (i :: l) (List.range all.size) (List.nodup_cons.2 ⟨hc, hnd⟩) fun x hx => by
     simp only [List.mem_cons] at hx
     rcases hx with rfl | hx
     ·simpa using hi
     ·simpa using hlt x hx
    simp at this
    omega⟩
   have hnone : Region.ready .any all listed = [] := by
    rw [List.eq_nil_iff_forall_not_mem]
    intro j hj
    obtain ⟨h1, o, ho, _⟩ := mem_ready.1 hj
    have hj' := (Array.getElem?_eq_some_iff.1 ho).1
    rw [(hli j hj').2 ((full j).2 hj')] at h1
    cases h1
   have e1 : (tst E all nx p all.size).2 = hA E all nx p l := by
    rw [tst_eq]; funext y
    exact (wr_all (fun j i => Anc.lt hab i j) hl full (fun j k => ob_pair hall hft)).symm
   have e2 : (tst E all nx p all.size).1 = frA E all nx p l := by
    rw [tst_eq]; funext y
    exact (wr_all (fun j i => Anc.lt hab i j) hl full (fun j k => slot_pair hsl)).symm
   exact ⟨hnone, hQ a w A η (by rw [e1]; exact .refl hs.heap) (by rw [e1, e2]; exact hs) ha⟩
 | succ fuel ih =>
   intro l listed hl hnd hsz hli hlt hlen w A η a hs ha hQ
   refine ⟨fun h0 => ?_, fun i hi => ?_⟩
   ·
    exfalso
    have : ∃ i, i < all.size ∧ i ∉ l := by
     refine Classical.byContradiction fun hn => ?_
     have hsub : List.range all.size ⊆ l := fun i hi => Classical.byContradiction fun hc => hn ⟨i, by simpa using hi, hc⟩
     have := nodup_len _ _ List.nodup_range hsub
     simp at this
     omega
    obtain ⟨i₀, h1, h2⟩ := this
    have least : ∀ n, (∃ i, i ≤ n ∧ i < all.size ∧ i ∉ l) → ∃ i, i < all.size ∧ i ∉ l ∧ ∀ j, j < i → j ∈ l := by
     intro n
     induction n with
     | zero => rintro ⟨i, h1, h2, h3⟩; exact ⟨i, h2, h3, fun j hj => by omega⟩
     | succ n ihn =>
       rintro ⟨i, h1, h2, h3⟩
       by_cases hc : ∃ i, i ≤ n ∧ i < all.size ∧ i ∉ l
       ·exact ihn hc
       ·refine ⟨i, h2, h3, fun j hj => Classical.byContradiction fun hjl => hc ⟨j, by omega, by omega, hjl⟩⟩
    obtain ⟨i, h3, h4, h5⟩ := least i₀ ⟨i₀, Nat.le_refl _, h1, h2⟩
    have ho : all[i]? = some all[i] := by simp [h3]
    have hr : i ∈ Region.ready .any all listed := by
     refine mem_ready.2 ⟨?_, all[i], ho, fun e he hb => ?_⟩
     ·cases hc : listed.getD i true with
      | false => rfl
      | true => exact (h4 ((hli i h3).1 hc)).elim
     ·have h6 := hab
      unfold afterB at h6
      rw [List.all_eq_true] at h6
      have h7 := h6 i (by simpa using h3)
      simp only [ho, List.all_eq_true] at h7
      have h8 := h7 e (by simpa using he)
      simp only [hb, Bool.not_true, Bool.false_or, decide_eq_true_eq] at h8
      have h9 := (hli e.on (by omega)).2 (h5 e.on h8)
      have : e.on < listed.size := by omega
      simp only [Array.getD_eq_getD_getElem?, Array.getElem?_eq_getElem this, Option.getD_some] at h9 ⊢
      exact h9
    rw [h0] at hr
    cases hr
   ·obtain ⟨h1, o, ho, h2⟩ := mem_ready.1 hi
    have hi' := (Array.getElem?_eq_some_iff.1 ho).1
    have hil : i ∉ l := fun hc => by rw [(hli i hi').2 hc] at h1; cases h1
    have hafter : ∀ e ∈ o.after, Region.binds .any e = true → e.on ∈ l := fun e he hb => by
     have h3 := h2 e he hb
     have h4 : e.on < all.size := by
      rcases Nat.lt_or_ge e.on all.size with h | h
      ·exact h
      ·rw [Array.getD_eq_getD_getElem?, Array.getElem?_eq_none (by omega)] at h3; cases h3
     refine (hli _ h4).1 ?_
     rw [← hsz] at h4
     simp only [Array.getD_eq_getD_getElem?, Array.getElem?_eq_getElem h4, Option.getD_some] at h3 ⊢
     exact h3
    have hanc := Anc.ready hl ho hafter
    obtain ⟨x, hx⟩ := hall i hi'
    have hv := ready_val hall hab hsl hft hE.nat hl ho hil hanc hx
    refine op_sound hE hgl hm hd ho hv hs ha fun a' w' A' η' st hs' ha' => ?_
    have e1 := frA_snoc E all nx p l hx
    have e2 := hA_snoc E all nx p l hx
    rw [gdst_of ho] at e1
    refine ih (l ++ [i]) _ (hl.snoc hil hanc) ?_ (by simpa using hsz) (fun j hj => ?_) (fun j hj => ?_) (by simp; omega) w' A' η' a' (by rw [e1, e2]; exact hs') ha' fun a₂ w₂ A₂ η₂ st₂ hs₂ ha₂ => hQ a₂ w₂ A₂ η₂ (st.trans' ?_) hs₂ ha₂
    ·rw [List.nodup_append]; exact ⟨hnd, by simp, fun a ha b hb e => hil (by simp only [List.mem_singleton] at hb; rw [← hb, ← e]; exact ha)⟩
    ·by_cases hij : i = j
     ·subst hij
      simp [hsz, hi']
     ·rw [getD_set_ne true hij, hli j hj]
      simp [Ne.symm hij]
    ·simp only [List.mem_append, List.mem_singleton] at hj
     rcases hj with hj | rfl
     ·exact hlt j hj
     ·exact hi'
    ·rw [e2] at st₂
     exact st₂
end draw
end
end Vm
namespace Vm
open Go
theorem both_some {R : Type} {x y : Option R} {r : R} (h : both x y = some r) : x = some r ∧ y = some r := by
 unfold both at h
 split at h
 ·rename_i e; exact ⟨h, e ▸ h⟩
 ·cases h
theorem both_self {R : Type} (x : Option R) : both x x = x := by unfold both; rw [if_pos rfl]
inductive Path (ops : Array Oper) : Array Bool → List Nat → Prop
 | nil {b : Array Bool} : Region.ready .any ops b = [] → Path ops b []
 | cons {b : Array Bool} {i : Nat} {l : List Nat} : i ∈ Region.ready .any ops b → Path ops (b.setIfInBounds i true) l → Path ops b (i :: l)
section
variable {P : Program} {F : Fence} {n : Nat} {ops : Array Oper} {Q : Exit → Act → World → Prop}
theorem wpOpIn_mono {i : Nat} {K K' : Act → World → Prop} (hk : ∀ a w, K a w → K' a w) {a : Act} {w : World} (h : wpOpIn F n P ops Q i K a w) : wpOpIn F n P ops Q i K' a w := by
 unfold wpOpIn at *
 split at h
 ·exact hk _ _ h
 ·split at h
  ·rename_i hw; simp only [hw, if_true]; exact Oper.wpIn_mono hk h
  ·rename_i hw; rw [if_neg hw]; exact ⟨h.1, hk _ _ h.2⟩
theorem any_path : {fuel : Nat} → {b : Array Bool} → {σ : List Nat} → Path ops b σ → σ.length ≤ fuel → {a : Act} → {w : World} → wpAnyIn F n P .any ops Q fuel b a w → wpOpsIn F n P ops Q σ a w
 | 0, b, [], h, hl, a, w, hw => hw.2
 | 0, b, i :: σ, h, hl, a, w, hw => by simp at hl
 | fuel + 1, b, [], .nil h, hl, a, w, hw => hw.1 h
 | fuel + 1, b, i :: σ, .cons h h', hl, a, w, hw => by
   rw [wpOpsIn_cons]
   exact wpOpIn_mono (fun a w hk => any_path h' (by simpa using hl) hk) (hw.2 i h)
theorem ready_set {b : Array Bool} {i : Nat} (hi : i ∈ Region.ready .any ops b) : i < ops.size ∧ b.getD i true = false := by
 obtain ⟨h1, o, ho, _⟩ := mem_ready.1 hi
 exact ⟨(Array.getElem?_eq_some_iff.1 ho).1, h1⟩
theorem lin_path : (fuel t : Nat) → (b : Array Bool) → (l : List Nat) → l.Nodup → b.size = ops.size → (∀ i, i < ops.size → (b.getD i true = true ↔ i ∈ l)) → (∀ i ∈ l, i < ops.size) → l.length + fuel = ops.size →
  Path ops b (Region.linearise.go .any ops fuel t b []) ∧ (Region.linearise.go .any ops fuel t b []).length ≤ fuel
 | 0, t, b, l, hnd, hsz, hli, hlt, hlen => by
   simp only [Region.linearise.go, List.reverse_nil, List.length_nil, Nat.le_refl, and_true]
   refine .nil (List.eq_nil_iff_forall_not_mem.2 fun j hj => ?_)
   obtain ⟨h1, h2⟩ := ready_set hj
   have : j ∉ l := fun hc => by rw [(hli j h1).2 hc] at h2; cases h2
   have := nodup_len (j :: l) (List.range ops.size) (List.nodup_cons.2 ⟨this, hnd⟩) fun x hx => by
    simp only [List.mem_cons] at hx
    rcases hx with rfl | hx
    ·simpa using h1
    ·simpa using hlt x hx
   simp at this
   omega
 | fuel + 1, t, b, l, hnd, hsz, hli, hlt, hlen => by
   have e : Region.linearise.go .any ops (fuel + 1) t b [] = match (Region.ready .any ops b)[t % (Region.ready .any ops b).length]? with
    | some i => Region.linearise.go .any ops fuel (t / (Region.ready .any ops b).length) (b.setIfInBounds i true) [i]
    | none => [].reverse := rfl
   rw [e]
   cases hi : (Region.ready .any ops b)[t % (Region.ready .any ops b).length]? with
   | none =>
     refine ⟨.nil ?_, by simp⟩
     cases hr : Region.ready .any ops b with
     | nil => rfl
     | cons x xs =>
       rw [hr] at hi
       rw [List.getElem?_eq_none_iff] at hi
       have := Nat.mod_lt t (show 0 < (x :: xs).length by simp)
       omega
   | some i =>
     dsimp only
     have hm := List.mem_of_getElem? hi
     obtain ⟨h1, h2⟩ := ready_set hm
     have hil : i ∉ l := fun hc => by rw [(hli i h1).2 hc] at h2; cases h2
     rw [linearise_go_acc]
     simp only [List.reverse_cons, List.reverse_nil, List.nil_append, List.singleton_append, List.length_cons]
     obtain ⟨g1, g2⟩ := lin_path fuel (t / (Region.ready .any ops b).length) (b.setIfInBounds i true) (l ++ [i]) (by rw [List.nodup_append]; exact ⟨hnd, by simp, fun a ha c hc e => hil (by simp only [List.mem_singleton] at hc; rw [← hc, ← e]; exact ha)⟩)
      (by simpa using hsz) (fun j hj => by
        by_cases hij : i = j
        ·subst hij; simp [hsz, h1]
        ·rw [getD_set_ne true hij, hli j hj]; simp [Ne.symm hij]) (fun j hj => by
        simp only [List.mem_append, List.mem_singleton] at hj
        rcases hj with hj | rfl
        ·exact hlt j hj
        ·exact h1) (by simp; omega)
     exact ⟨.cons hm g1, by omega⟩
structure Perm (n : Nat) (τ : List Nat) : Prop where
 nodup : τ.Nodup
 len : τ.length = n
 lt : ∀ i ∈ τ, i < n
theorem nodupB_nd : {l : List Nat} → nodupB l = true → l.Nodup
 | [], _ => .nil
 | i :: l, h => by
   simp only [nodupB, Bool.and_eq_true, Bool.not_eq_true', List.contains_eq_mem, decide_eq_false_iff_not] at h
   exact List.nodup_cons.2 ⟨h.1, nodupB_nd h.2⟩
theorem permB_spec {n : Nat} {τ : List Nat} (h : permB n τ = true) : Perm n τ := by
 unfold permB at h
 simp only [Bool.and_eq_true, decide_eq_true_eq] at h
 exact ⟨nodupB_nd h.1.1, h.1.2, fun i hi => by simpa using List.all_eq_true.1 h.2 i hi⟩
theorem Perm.mem {n : Nat} {τ : List Nat} (h : Perm n τ) {i : Nat} (hi : i < n) : i ∈ τ := by
 refine Classical.byContradiction fun hc => ?_
 have := nodup_len (i :: τ) (List.range n) (List.nodup_cons.2 ⟨hc, h.nodup⟩) fun x hx => by
  simp only [List.mem_cons] at hx
  rcases hx with rfl | hx
  ·simpa using hi
  ·simpa using h.lt x hx
 simp [h.len] at this
 omega
theorem pos_get : {L : List Nat} → {i : Nat} → i ∈ L → L[posIn L i]? = some i
 | [], i, h => by simp at h
 | j :: L, i, h => by
   simp only [posIn]
   by_cases hj : j = i
   ·subst hj; simp
   ·rw [if_neg hj]
    rcases List.mem_cons.1 h with rfl | h'
    ·exact (hj rfl).elim
    ·simpa using pos_get h'
theorem pos_out : {L : List Nat} → {i : Nat} → i ∉ L → posIn L i = L.length
 | [], i, h => rfl
 | j :: L, i, h => by
   simp only [List.mem_cons, not_or] at h
   simp only [posIn, List.length_cons]
   rw [if_neg (fun e => h.1 e.symm), pos_out h.2]
variable {x y : Nat} {τ : List Nat}
theorem filterMap_total {α : Type} {f : Nat → Option α} : (l : List Nat) → (∀ i ∈ l, (f i).isSome = true) → ∀ k : Nat, (l.filterMap f)[k]? = (l[k]?).bind f
 | [], _, k => by simp
 | i :: l, h, k => by
   obtain ⟨z, hz⟩ := Option.isSome_iff_exists.1 (h i (by simp))
   rw [List.filterMap_cons_some hz]
   cases k with
   | zero => simp [hz]
   | succ k => simpa using filterMap_total l (fun j hj => h j (by simp [hj])) k
theorem ord_get (hp : Perm ops.size τ) {i : Nat} {o : Oper} (ho : ops[i]? = some o) : (ordOps ops x y τ)[posIn τ i]? = some (relab (posIn τ) (edged x y i o)) := by
 have hi := hp.mem (Array.getElem?_eq_some_iff.1 ho).1
 unfold ordOps
 rw [List.getElem?_toArray, filterMap_total τ (fun j hj => by simp [hp.lt j hj]), pos_get hi]
 simp [ho]
theorem ord_size (hp : Perm ops.size τ) : (ordOps ops x y τ).size = ops.size := by
 unfold ordOps
 rw [List.size_toArray]
 have : ∀ (l : List Nat), (∀ i ∈ l, i < ops.size) → (l.filterMap fun i => (ops[i]?).map fun o => relab (posIn τ) (edged x y i o)).length = l.length := by
  intro l
  induction l with
  | nil => intro _; rfl
  | cons i l ih =>
    intro h
    rw [List.filterMap_cons_some (by rw [Array.getElem?_eq_getElem (h i (by simp))]; rfl)]
    simp [ih fun j hj => h j (by simp [hj])]
 rw [this τ hp.lt, hp.len]
theorem relab_wp (π : Nat → Nat) (i : Nat) (o : Oper) (a : Act) (w : World) (K : Act → World → Prop) : (relab π (edged x y i o)).wpIn F n P a w K Q = o.wpIn F n P a w K Q := by
 unfold relab edged
 split <;> rfl
theorem relab_about (π : Nat → Nat) (i : Nat) (o : Oper) (w : World) (ρ : Operand → Value) : (relab π (edged x y i o)).about P w ρ = o.about P w ρ := by
 unfold relab edged
 split <;> rfl
theorem relab_dst (π : Nat → Nat) (i : Nat) (o : Oper) : (relab π (edged x y i o)).dst = o.dst := by
 unfold relab edged
 split <;> rfl
theorem relab_guard (π : Nat → Nat) (i : Nat) (o : Oper) : (relab π (edged x y i o)).guard = o.guard.map fun g => (π g.1, g.2) := by
 unfold relab edged
 split <;> rfl
theorem yielded_ord (hp : Perm ops.size τ) (tm : Array Value) (j : Nat) : yielded (ordOps ops x y τ) tm (posIn τ j) = yielded ops tm j := by
 unfold yielded
 cases ho : ops[j]? with
 | some o => rw [ord_get hp ho]; simp [relab_dst]
 | none =>
   have hj : j ∉ τ := fun hc => by
    have := hp.lt j hc
    rw [Array.getElem?_eq_getElem this] at ho; cases ho
   rw [pos_out hj, Array.getElem?_eq_none (by rw [ord_size hp, hp.len]; exact Nat.le_refl _)]
theorem wanted_ord (hp : Perm ops.size τ) (tm : Array Value) (i : Nat) (o : Oper) : Region.wanted (relab (posIn τ) (edged x y i o)) (yielded (ordOps ops x y τ) tm) = Region.wanted o (yielded ops tm) := by
 unfold Region.wanted
 rw [relab_guard]
 cases o.guard with
 | none => rfl
 | some g => simp only [Option.map_some]; rw [yielded_ord hp]
theorem ops_ord (hp : Perm ops.size τ) : (σ : List Nat) → (∀ i ∈ σ, i < ops.size) → ∀ (a : Act) (w : World), wpOpsIn F n P (ordOps ops x y τ) Q (σ.map (posIn τ)) a w → wpOpsIn F n P ops Q σ a w
 | [], _, a, w, h => h
 | i :: σ, hl, a, w, h => by
   rw [List.map_cons, wpOpsIn_cons] at h
   rw [wpOpsIn_cons]
   have hi := hl i (by simp)
   have ho : ops[i]? = some ops[i] := Array.getElem?_eq_getElem hi
   have ih := ops_ord hp σ fun j hj => hl j (by simp [hj])
   unfold wpOpIn at h ⊢
   rw [ord_get hp ho] at h
   rw [ho]
   dsimp only at h ⊢
   rw [wanted_ord hp] at h
   split at h
   ·rename_i hw
    rw [if_pos hw]
    rw [relab_wp] at h
    exact Oper.wpIn_mono ih h
   ·rename_i hw
    rw [if_neg hw]
    rw [relab_dst] at h
    exact ⟨fun f hf => h.1 f (by rw [relab_about]; exact hf), ih _ _ h.2⟩
def Marks (n : Nat) (τ : List Nat) (b b' : Array Bool) : Prop := b.size = n ∧ b'.size = n ∧ ∀ i, i < n → b'.getD (posIn τ i) true = b.getD i true
theorem getD_any {b : Array Bool} {i : Nat} (h : i < b.size) (d e : Bool) : b.getD i d = b.getD i e := by
 simp [Array.getD_eq_getD_getElem?, Array.getElem?_eq_getElem h]
theorem pos_inj {L : List Nat} {i j : Nat} (hi : i ∈ L) (hj : j ∈ L) (e : posIn L i = posIn L j) : i = j := by
 have h1 := pos_get hi
 rw [e, pos_get hj] at h1
 cases h1; rfl
theorem Marks.set {n : Nat} {b b' : Array Bool} (hp : Perm n τ) (h : Marks n τ b b') {i : Nat} (hi : i < n) : Marks n τ (b.setIfInBounds i true) (b'.setIfInBounds (posIn τ i) true) := by
 obtain ⟨h1, h2, h3⟩ := h
 have hpl : posIn τ i < n := by
  have := (List.getElem?_eq_some_iff.1 (pos_get (hp.mem hi))).1
  rw [hp.len] at this; exact this
 refine ⟨by simpa using h1, by simpa using h2, fun j hj => ?_⟩
 by_cases e : i = j
 ·subst e; simp [h1, h2, hi, hpl]
 ·rw [getD_set_ne true e, getD_set_ne true (fun e' => e (pos_inj (hp.mem hi) (hp.mem hj) e')), h3 j hj]
theorem relab_after (π : Nat → Nat) (i : Nat) (o : Oper) : ∀ e ∈ (relab π (edged x y i o)).after, (∃ e' ∈ o.after, e = { e' with on := π e'.on }) ∨ (i = y ∧ e.on = π x) := by
 intro e he
 unfold relab edged at he
 split at he
 ·rename_i hy
  simp only [Array.mem_map, Array.mem_push] at he
  obtain ⟨e', h1 | rfl, rfl⟩ := he
  ·exact .inl ⟨e', h1, rfl⟩
  ·exact .inr ⟨hy, rfl⟩
 ·simp only [Array.mem_map] at he
  obtain ⟨e', h1, rfl⟩ := he
  exact .inl ⟨e', h1, rfl⟩
theorem ready_ord (hp : Perm ops.size τ) {b b' : Array Bool} (hm : Marks ops.size τ b b') {i : Nat} (hi : i ∈ Region.ready .any ops b) (hxy : i = y → b.getD x true = true) (hx : x < ops.size) : posIn τ i ∈ Region.ready .any (ordOps ops x y τ) b' := by
 obtain ⟨h1, o, ho, h2⟩ := mem_ready.1 hi
 have hlt := (Array.getElem?_eq_some_iff.1 ho).1
 have fwd : ∀ j, j < ops.size → b.getD j true = true → b'.getD (posIn τ j) false = true := fun j hj hb => by
  have hpl : posIn τ j < ops.size := by
   have := (List.getElem?_eq_some_iff.1 (pos_get (hp.mem hj))).1
   rw [hp.len] at this; exact this
  rw [getD_any (by rw [hm.2.1]; exact hpl) false true, hm.2.2 j hj]; exact hb
 refine mem_ready.2 ⟨by rw [hm.2.2 i hlt]; exact h1, _, ord_get hp ho, fun e he hb => ?_⟩
 rcases relab_after _ _ _ e he with ⟨e', g1, rfl⟩ | ⟨rfl, g2⟩
 ·have h3 := h2 e' g1 (by simpa [Region.binds] using hb)
  have hj : e'.on < ops.size := by
   rcases Nat.lt_or_ge e'.on ops.size with h | h
   ·exact h
   ·rw [Array.getD_eq_getD_getElem?, Array.getElem?_eq_none (by rw [hm.1]; exact h)] at h3; cases h3
  exact fwd _ hj (by rw [getD_any (by rw [hm.1]; exact hj) true false]; exact h3)
 ·rw [g2]; exact fwd x hx (hxy rfl)
theorem ready_back (hp : Perm ops.size τ) {b b' : Array Bool} (hm : Marks ops.size τ b b') (h : Region.ready .any ops b = []) : Region.ready .any (ordOps ops x y τ) b' = [] := by
 rw [List.eq_nil_iff_forall_not_mem] at h ⊢
 intro k hk
 obtain ⟨h1, o', ho', h2⟩ := mem_ready.1 hk
 have hlt := (Array.getElem?_eq_some_iff.1 ho').1
 rw [ord_size hp] at hlt
 have hkt : τ[k]? = some (τ[k]'(by rw [hp.len]; exact hlt)) := List.getElem?_eq_getElem (by rw [hp.len]; exact hlt)
 generalize hi : τ[k]'(by rw [hp.len]; exact hlt) = i at hkt
 have him := List.mem_of_getElem? hkt
 have hil := hp.lt i him
 have hpk : posIn τ i = k := by
  have := pos_get him
  obtain ⟨a1, a2⟩ := List.getElem?_eq_some_iff.1 this
  obtain ⟨b1, b2⟩ := List.getElem?_eq_some_iff.1 hkt
  exact (List.getElem_inj hp.nodup).1 (a2.trans b2.symm)
 subst hpk
 have ho : ops[i]? = some ops[i] := Array.getElem?_eq_getElem hil
 rw [ord_get hp ho] at ho'
 cases ho'
 refine h i (mem_ready.2 ⟨by rw [← hm.2.2 i hil]; exact h1, _, ho, fun e he hb => ?_⟩)
 have : ({ e with on := posIn τ e.on } : Edge) ∈ (relab (posIn τ) (edged x y i ops[i])).after := by
  unfold relab edged
  split
  ·simp only [Array.mem_map, Array.mem_push]; exact ⟨e, .inl he, rfl⟩
  ·simp only [Array.mem_map]; exact ⟨e, he, rfl⟩
 have h3 := h2 _ this (by simpa [Region.binds] using hb)
 simp only at h3
 by_cases hj : e.on < ops.size
 ·have hpl : posIn τ e.on < ops.size := by
    have := (List.getElem?_eq_some_iff.1 (pos_get (hp.mem hj))).1
    rw [hp.len] at this; exact this
  rw [getD_any (by rw [hm.2.1]; exact hpl) false true, hm.2.2 _ hj] at h3
  rw [getD_any (by rw [hm.1]; exact hj) false true]; exact h3
 ·rw [pos_out (fun hc => hj (hp.lt _ hc)), hp.len, Array.getD_eq_getD_getElem?, Array.getElem?_eq_none (by rw [hm.2.1]; exact Nat.le_refl _)] at h3
  cases h3
theorem path_ord (hp : Perm ops.size τ) (hne : x ≠ y) (hx : x < ops.size) : {b b' : Array Bool} → {σ : List Nat} → Path ops b σ → Marks ops.size τ b b' → (b.getD x true = true ∨ y ∉ σ ∨ ∃ l₁ l₂, σ = l₁ ++ x :: l₂ ∧ y ∉ l₁) → Path (ordOps ops x y τ) b' (σ.map (posIn τ))
 | b, b', [], .nil h, hm, _ => .nil (ready_back hp hm h)
 | b, b', i :: σ, .cons h h', hm, hxy => by
   rw [List.map_cons]
   have hil := (ready_set h).1
   refine .cons (ready_ord hp hm h (fun e => ?_) hx) (path_ord hp hne hx h' (hm.set hp hil) ?_)
   ·rcases hxy with h1 | h1 | ⟨l₁, l₂, h1, h2⟩
    ·exact h1
    ·exact (h1 (by simp [e])).elim
    ·cases l₁ with
     | nil =>
       simp only [List.nil_append, List.cons.injEq] at h1
       exact (hne (h1.1 ▸ e)).elim
     | cons j l₁ =>
       simp only [List.cons_append, List.cons.injEq] at h1
       exact (h2 (by rw [← e, h1.1]; simp)).elim
   ·rcases hxy with h1 | h1 | ⟨l₁, l₂, h1, h2⟩
    ·left
     by_cases e : i = x
     ·subst e; simp [hm.1, hil]
     ·rw [getD_set_ne true e]; exact h1
    ·exact .inr (.inl fun hc => h1 (by simp [hc]))
    ·cases l₁ with
     | nil =>
       simp only [List.nil_append, List.cons.injEq] at h1
       left
       rw [h1.1]; simp [hm.1, hx]
     | cons j l₁ =>
       simp only [List.cons_append, List.cons.injEq] at h1
       exact .inr (.inr ⟨l₁, l₂, h1.2, fun hc => h2 (by simp [hc])⟩)
theorem first_at {y : Nat} : {σ : List Nat} → y ∈ σ → ∃ l₁ l₂, σ = l₁ ++ y :: l₂ ∧ y ∉ l₁
 | [], h => by simp at h
 | i :: σ, h => by
   by_cases e : i = y
   ·subst e; exact ⟨[], σ, rfl, by simp⟩
   ·have h' : y ∈ σ := by
      rcases List.mem_cons.1 h with rfl | h'
      ·exact (e rfl).elim
      ·exact h'
    obtain ⟨l₁, l₂, h1, h2⟩ := first_at h'
    exact ⟨i :: l₁, l₂, by rw [h1]; rfl, by simp only [List.mem_cons, not_or]; exact ⟨fun e' => e e'.symm, h2⟩⟩
theorem path_lt : {b : Array Bool} → {σ : List Nat} → Path ops b σ → ∀ i ∈ σ, i < ops.size
 | b, [], _, i, hi => by simp at hi
 | b, j :: σ, .cons h h', i, hi => by
   rcases List.mem_cons.1 hi with rfl | hi
   ·exact (ready_set h).1
   ·exact path_lt h' i hi
theorem split_region (hP : P.follows .mixedOrders = true) {id : Nat} {τ₁ τ₂ : List Nat} (hne : x ≠ y) (hx : x < ops.size) (hy : y < ops.size) (hp₁ : Perm ops.size τ₁) (hp₂ : Perm ops.size τ₂) {a : Act} {w : World}
  (h₁ : wpAnyIn F n P .any (ordOps ops x y τ₁) Q (ordOps ops x y τ₁).size (Array.replicate (ordOps ops x y τ₁).size false) a { w with drawn := w.drawn + 1 })
  (h₂ : wpAnyIn F n P .any (ordOps ops y x τ₂) Q (ordOps ops y x τ₂).size (Array.replicate (ordOps ops y x τ₂).size false) a { w with drawn := w.drawn + 1 }) : (Code.region id ops true).wpIn F n P Q a w := by
 refine wpIn_region_draw fun t => ?_
 simp only [Region.schedule, hP, Bool.true_or, if_true]
 unfold Region.linearise
 obtain ⟨hpath, hlen⟩ := lin_path (ops := ops) ops.size t (Array.replicate ops.size false) [] .nil (by simp) (fun i hi => by simp [hi]) (by simp) (by simp)
 generalize Region.linearise.go .any ops ops.size t (Array.replicate ops.size false) [] = σ at hpath hlen ⊢
 have hlt := path_lt hpath
 have marks : ∀ {x y : Nat} {τ : List Nat}, Perm ops.size τ → Marks ops.size τ (Array.replicate ops.size false) (Array.replicate (ordOps ops x y τ).size false) := fun {x y τ} hp => by
  refine ⟨by simp, by simp [ord_size hp], fun i hi => ?_⟩
  have hpl : posIn τ i < ops.size := by
   have := (List.getElem?_eq_some_iff.1 (pos_get (hp.mem hi))).1
   rw [hp.len] at this; exact this
  rw [ord_size hp]
  simp [hi, hpl]
 have key : ∀ {x y : Nat} {τ : List Nat}, Perm ops.size τ → x ≠ y → x < ops.size → (y ∉ σ ∨ ∃ l₁ l₂, σ = l₁ ++ x :: l₂ ∧ y ∉ l₁) →
   wpAnyIn F n P .any (ordOps ops x y τ) Q (ordOps ops x y τ).size (Array.replicate (ordOps ops x y τ).size false) a { w with drawn := w.drawn + 1 } → wpOpsIn F n P ops Q σ a { w with drawn := w.drawn + 1 } := fun hp hne hx hxy h =>
  ops_ord hp σ hlt a _ (any_path (path_ord hp hne hx hpath (marks hp) (.inr hxy)) (by rw [List.length_map, ord_size hp]; exact hlen) h)
 by_cases hyσ : y ∈ σ
 ·obtain ⟨l₁, l₂, e, hn⟩ := first_at hyσ
  by_cases hxl : x ∈ l₁
  ·obtain ⟨m₁, m₂, e', hn'⟩ := first_at hxl
   exact key hp₁ hne hx (.inr ⟨m₁, m₂ ++ y :: l₂, by rw [e, e']; simp, fun hc => hn (by rw [e']; simp [hc])⟩) h₁
  ·exact key hp₂ (Ne.symm hne) hy (.inr ⟨l₁, l₂, e, hxl⟩) h₂
 ·exact key hp₁ hne hx (.inl hyσ) h₁
end
end Vm
namespace Vm
open Go
theorem nodupB_spec : {l : List Nat} → nodupB l = true → l.Nodup
 | [], _ => .nil
 | i :: l, h => by
   simp only [nodupB, Bool.and_eq_true, Bool.not_eq_true', List.contains_eq_mem, decide_eq_false_iff_not] at h
   exact List.nodup_cons.2 ⟨h.1, nodupB_spec h.2⟩
theorem subB_spec {a b : List Nat} (h : subB a b = true) : ∀ i ∈ a, i ∈ b := by
 unfold subB at h
 simpa using h
theorem posIn_get : {L : List Nat} → {i : Nat} → i ∈ L → L[posIn L i]? = some i
 | [], i, h => by simp at h
 | j :: L, i, h => by
   simp only [posIn]
   by_cases hj : j = i
   ·subst hj; simp
   ·rw [if_neg hj]
    rcases List.mem_cons.1 h with rfl | h'
    ·exact (hj rfl).elim
    ·simpa using posIn_get h'
theorem posIn_lt {L : List Nat} {i : Nat} (h : i ∈ L) : posIn L i < L.length := (List.getElem?_eq_some_iff.1 (posIn_get h)).1
theorem posIn_inj {L : List Nat} {i j : Nat} (hi : i ∈ L) (hj : j ∈ L) (e : posIn L i = posIn L j) : i = j := by
 have h1 := posIn_get hi
 have h2 := posIn_get hj
 rw [e, h2] at h1
 cases h1; rfl
theorem nodup_get {L : List Nat} (hn : L.Nodup) {i j x : Nat} (hi : L[i]? = some x) (hj : L[j]? = some x) : i = j := by
 obtain ⟨h1, h2⟩ := List.getElem?_eq_some_iff.1 hi
 obtain ⟨h3, h4⟩ := List.getElem?_eq_some_iff.1 hj
 exact (List.getElem_inj hn).1 (h2.trans h4.symm)
theorem posIn_of {L : List Nat} (hn : L.Nodup) {j x : Nat} (hj : L[j]? = some x) : posIn L x = j :=
 nodup_get hn (posIn_get (List.mem_of_getElem? hj)) hj
theorem posIn_mem : {L : List Nat} → {i : Nat} → posIn L i < L.length → i ∈ L
 | [], i, h => by simp [posIn] at h
 | j :: L, i, h => by
   simp only [posIn] at h
   by_cases hj : j = i
   ·subst hj; simp
   ·rw [if_neg hj] at h
    exact List.mem_cons_of_mem _ (posIn_mem (by simpa using h))
structure Ordered (h : Nat → Option Ob) (first rest L : List Nat) : Prop where
 nodup : L.Nodup
 sub : ∀ i ∈ rest, i ∈ L
 closed : ∀ i ∈ L, ∃ o, h i = some o ∧ ∀ j ∈ o.ids, j ∈ L
 front : L.take first.length = first
theorem order_spec {h : Nat → Option Ob} {first rest L : List Nat} (ho : order h first rest = some L) : Ordered h first rest L := by
 unfold order at ho
 split at ho
 ·split at ho
  ·rename_i hc
   cases ho
   simp only [Bool.and_eq_true, beq_iff_eq] at hc
   obtain ⟨⟨⟨h1, h2⟩, h3⟩, h4⟩ := hc
   refine ⟨nodupB_spec h1, subB_spec h2, fun i hi => ?_, h4⟩
   unfold closedB at h3
   rw [List.all_eq_true] at h3
   have := h3 i hi
   split at this
   ·exact ⟨_, by assumption, subB_spec this⟩
   ·cases this
  ·cases ho
 ·cases ho
theorem Ordered.first {h : Nat → Option Ob} {first rest L : List Nat} (ho : Ordered h first rest L) : first.length ≤ L.length ∧ (∀ j, j < first.length → L[j]? = first[j]?) ∧ ∀ i ∈ first, i ∈ L := by
 have e := congrArg List.length ho.front
 simp only [List.length_take] at e
 refine ⟨by omega, fun j hj => ?_, fun i hi => ?_⟩
 ·have := congrArg (·[j]?) ho.front
  simp only [List.getElem?_take, hj, if_true] at this
  exact this
 ·rw [← ho.front] at hi
  exact List.mem_of_mem_take hi
theorem obsOf_spec {h : Nat → Option Ob} {ρ : Nat → Nat} : {L : List Nat} → {os : List Ob} → obsOf h ρ L = some os → os.length = L.length ∧ ∀ j : Nat, os[j]? = match L[j]? with
  | some i => (h i).map (Ob.ren ρ)
  | none => none
 | [], os, ho => by simp only [obsOf, Option.some.injEq] at ho; subst ho; exact ⟨rfl, fun j => by simp⟩
 | i :: L, os, ho => by
   simp only [obsOf] at ho
   split at ho
   ·rename_i o os' h1 h2
    cases ho
    obtain ⟨h3, h4⟩ := obsOf_spec h2
    refine ⟨by simp [h3], fun j => ?_⟩
    cases j with
    | zero => simp [h1]
    | succ j => simpa using h4 j
   ·cases ho
def hP (h : Nat → Option Ob) (L : List Nat) : Nat → Option Ob := fun j => match L[j]? with
 | some i => (h i).map (Ob.ren (posIn L))
 | none => none
def ηP (η : Nat → Option Nat) (L : List Nat) : Nat → Option Nat := fun j => match L[j]? with
 | some i => η i
 | none => none
abbrev obs (os : List Ob) : Nat → Option Ob := fun j => os[j]?
theorem obs_hP {h : Nat → Option Ob} {L : List Nat} {os : List Ob} (ho : obsOf h (posIn L) L = some os) : obs os = hP h L := by
 funext j
 exact (obsOf_spec ho).2 j
theorem look_zip {α : Type} : (l : List α) → (n j : Nat) → look (zipFrom n l) j = if n ≤ j then l[j - n]? else none
 | [], n, j => by simp [zipFrom, look]
 | x :: l, n, j => by
   simp only [zipFrom, look]
   rw [look_zip l (n + 1) j]
   by_cases e : n = j
   ·subst e; simp
   ·rw [if_neg e]
    by_cases hl : n ≤ j
    ·rw [if_pos (show n + 1 ≤ j by omega), if_pos hl, show j - n = (j - (n + 1)) + 1 by omega]
     simp
    ·rw [if_neg (by omega), if_neg hl]
theorem look_obs (os : List Ob) : look (zipFrom 0 os) = obs os := by
 funext j; rw [look_zip]; simp
mutual
theorem V.ren_ids (ρ : Nat → Nat) : (v : V) → (v.ren ρ).ids = v.ids.map ρ
 | .agg l => by simp only [V.ren, V.ids]; exact V.renL_ids ρ l
 | .tuple l => by simp only [V.ren, V.ids]; exact V.renL_ids ρ l
 | .fn f a b => by simp only [V.ren, V.ids, List.map_append]; rw [V.renL_ids ρ a, V.renL_ids ρ b]
 | .iface t v => by simp only [V.ren, V.ids]; exact V.ren_ids ρ v
 | .win _ _ _ _ => rfl
 | .ref _ _ _ _ => rfl
 | .own _ => rfl
 | .map _ => rfl
 | .yld _ => rfl
 | .stamp _ => rfl
 | .int _ _ => rfl
 | .bool _ => rfl
 | .str _ => rfl
 | .sl _ _ => rfl
 | .emp _ _ => rfl
 | .nilsl => rfl
 | .nilp => rfl
 | .nilfn => rfl
 | .nilif => rfl
 | .nilmap => rfl
 | .undef => rfl
 | .rod _ _ _ => rfl
 | .rodA _ _ => rfl
theorem V.renL_ids (ρ : Nat → Nat) : (l : List V) → V.idsL (V.renL ρ l) = (V.idsL l).map ρ
 | [] => rfl
 | v :: l => by simp only [V.renL, V.idsL, List.map_append]; rw [V.ren_ids ρ v, V.renL_ids ρ l]
end
mutual
theorem V.ren_roots (ρ : Nat → Nat) : (v : V) → (v.ren ρ).roots = v.roots.map ρ
 | .agg l => by simp only [V.ren, V.roots]; exact V.renL_roots ρ l
 | .tuple l => by simp only [V.ren, V.roots]; exact V.renL_roots ρ l
 | .fn f a b => by simp only [V.ren, V.roots, List.map_append]; rw [V.renL_roots ρ a, V.renL_roots ρ b]
 | .iface t v => by simp only [V.ren, V.roots]; exact V.ren_roots ρ v
 | .win _ _ _ _ => rfl
 | .ref _ _ _ _ => rfl
 | .own _ => rfl
 | .map _ => rfl
 | .yld _ => rfl
 | .stamp _ => rfl
 | .int _ _ => rfl
 | .bool _ => rfl
 | .str _ => rfl
 | .sl _ _ => rfl
 | .emp _ _ => rfl
 | .nilsl => rfl
 | .nilp => rfl
 | .nilfn => rfl
 | .nilif => rfl
 | .nilmap => rfl
 | .undef => rfl
 | .rod _ _ _ => rfl
 | .rodA _ _ => rfl
theorem V.renL_roots (ρ : Nat → Nat) : (l : List V) → V.rootsL (V.renL ρ l) = (V.rootsL l).map ρ
 | [] => rfl
 | v :: l => by simp only [V.renL, V.rootsL, List.map_append]; rw [V.ren_roots ρ v, V.renL_roots ρ l]
end
mutual
theorem V.roots_ids : (v : V) → ∀ i ∈ v.roots, i ∈ v.ids
 | .agg l, i, hi => by simp only [V.roots] at hi; simp only [V.ids]; exact V.rootsL_ids l i hi
 | .tuple l, i, hi => by simp only [V.roots] at hi; simp only [V.ids]; exact V.rootsL_ids l i hi
 | .fn f a b, i, hi => by
   simp only [V.roots, List.mem_append] at hi
   simp only [V.ids, List.mem_append]
   exact hi.imp (V.rootsL_ids a i) (V.rootsL_ids b i)
 | .iface t v, i, hi => by simp only [V.roots] at hi; simp only [V.ids]; exact V.roots_ids v i hi
 | .win _ _ _ _, _, hi => hi
 | .ref _ _ _ _, _, hi => hi
 | .own _, _, hi => hi
 | .map _, _, hi => hi
 | .yld _, _, hi => hi
 | .stamp _, _, hi => hi
 | .int _ _, _, hi => hi
 | .bool _, _, hi => hi
 | .str _, _, hi => hi
 | .sl _ _, _, hi => hi
 | .emp _ _, _, hi => hi
 | .nilsl, _, hi => hi
 | .nilp, _, hi => hi
 | .nilfn, _, hi => hi
 | .nilif, _, hi => hi
 | .nilmap, _, hi => hi
 | .undef, _, hi => hi
 | .rod _ _ _, _, hi => hi
 | .rodA _ _, _, hi => hi
theorem V.rootsL_ids : (l : List V) → ∀ i ∈ V.rootsL l, i ∈ V.idsL l
 | [], _, hi => hi
 | v :: l, i, hi => by
   simp only [V.rootsL, List.mem_append] at hi
   simp only [V.idsL, List.mem_append]
   exact hi.imp (V.roots_ids v i) (V.rootsL_ids l i)
end
theorem dedup_map {ρ : Nat → Nat} {I : Nat → Prop} (hinj : ∀ i j, I i → I j → ρ i = ρ j → i = j) : (l acc : List Nat) → (∀ i ∈ l, I i) → (∀ i ∈ acc, I i) → dedup (l.map ρ) (acc.map ρ) = (dedup l acc).map ρ
 | [], acc, _, _ => rfl
 | i :: l, acc, hl, ha => by
   have hi := hl i (by simp)
   have hl' : ∀ j ∈ l, I j := fun j hj => hl j (by simp [hj])
   have e : (acc.map ρ).contains (ρ i) = acc.contains i := by
    rw [Bool.eq_iff_iff]
    simp only [List.contains_iff_mem, List.mem_map]
    exact ⟨fun ⟨j, h1, h2⟩ => hinj j i (ha j h1) hi h2 ▸ h1, fun h => ⟨i, h, rfl⟩⟩
   simp only [List.map_cons, dedup]
   rw [e]
   split
   ·exact dedup_map hinj l acc hl' ha
   ·have := dedup_map hinj l (acc ++ [i]) hl' (fun j hj => by
      simp only [List.mem_append, List.mem_singleton] at hj
      rcases hj with hj | rfl
      ·exact ha j hj
      ·exact hi)
    rw [List.map_append] at this
    exact this
structure Moved (w w' : World) (A A' : ASet) (η η' : Nat → Option Nat) (h h' : Nat → Option Ob) (ρ : Nat → Nat) (I : Nat → Prop) : Prop where
 imm : ∀ b, A b → A' b ∧ w'.heap[b]? = w.heap[b]?
 at_ : ∀ i, I i → η' (ρ i) = η i
 own : ∀ i v, I i → OwnRep w η h i v → OwnRep w' η' h' (ρ i) v
 lk : ∀ j c, I j → I c → Lock h' (ρ j) (ρ c) → Lock h j c ∧ ∀ b, η j = some b → w'.heap[b]? = w.heap[b]?
section
variable {w w' : World} {A A' : ASet} {η η' : Nat → Option Nat} {h h' : Nat → Option Ob} {ρ : Nat → Nat} {I : Nat → Prop}
mutual
theorem V.Rep.ren (hs : Moved w w' A A' η η' h h' ρ I) : (v : V) → (c : Value) → (∀ i ∈ v.ids, I i) → V.Rep w A η h v c → V.Rep w' A' η' h' (v.ren ρ) c
 | .int _ _, _, _, hr => by simp only [V.ren, V.Rep] at hr ⊢; exact hr
 | .bool _, _, _, hr => by simp only [V.ren, V.Rep] at hr ⊢; exact hr
 | .str _, _, _, hr => by simp only [V.ren, V.Rep] at hr ⊢; exact hr
 | .sl r xs, c, _, hr => by simp only [V.ren, V.Rep] at hr ⊢; exact K.Rep.mono hs.imm _ _ _ hr
 | .emp _ _, _, _, hr => by
   simp only [V.ren, V.Rep] at hr ⊢
   obtain ⟨ad, cap, h1, h2, h3⟩ := hr
   exact ⟨ad, cap, h1, h2, fun hc => ⟨(h3 hc).1, (hs.imm _ (h3 hc).2).1⟩⟩
 | .nilsl, _, _, hr => by simp only [V.ren, V.Rep] at hr ⊢; exact hr
 | .nilp, _, _, hr => by simp only [V.ren, V.Rep] at hr ⊢; exact hr
 | .nilfn, _, _, hr => by simp only [V.ren, V.Rep] at hr ⊢; exact hr
 | .nilif, _, _, hr => by simp only [V.ren, V.Rep] at hr ⊢; exact hr
 | .nilmap, _, _, hr => by simp only [V.ren, V.Rep] at hr ⊢; exact hr
 | .undef, _, _, hr => by simp only [V.ren, V.Rep] at hr ⊢; exact hr
 | .agg l, c, hi, hr => by
   simp only [V.ren, V.Rep] at hr ⊢
   obtain ⟨cs, rfl, hl⟩ := hr
   exact ⟨cs, rfl, V.RepL.ren hs l _ (by simpa [V.ids] using hi) hl⟩
 | .tuple l, c, hi, hr => by
   simp only [V.ren, V.Rep] at hr ⊢
   obtain ⟨cs, rfl, hl⟩ := hr
   exact ⟨cs, rfl, V.RepL.ren hs l _ (by simpa [V.ids] using hi) hl⟩
 | .win i _ _ _, c, hi, hr => by
   simp only [V.ren, V.Rep] at hr ⊢
   obtain ⟨b, o, cap, hb, hc⟩ := hr
   exact ⟨b, o, cap, by rw [hs.at_ i (hi i (by simp [V.ids]))]; exact hb, hc⟩
 | .ref i k n o, c, hi, hr => by
   simp only [V.ren, V.Rep] at hr ⊢
   obtain ⟨b, hb, rfl⟩ := hr
   exact ⟨b, by rw [hs.at_ i (hi i (by simp [V.ids]))]; exact hb, rfl⟩
 | .rod r x o, c, _, hr => by
   simp only [V.ren, V.Rep] at hr ⊢
   obtain ⟨b, p, hA, rfl, hx⟩ := hr
   exact ⟨b, p, (hs.imm b hA).1, rfl, Ks.Rep.mono hs.imm r x b p (hs.imm b hA).2 hx⟩
 | .rodA r xs, c, _, hr => by
   simp only [V.ren, V.Rep] at hr ⊢
   obtain ⟨b, p, hA, rfl, hx⟩ := hr
   exact ⟨b, p, (hs.imm b hA).1, rfl, fun i x hi => Ks.Rep.mono hs.imm r x b _ (hs.imm b hA).2 (hx i x hi)⟩
 | .own i, c, hi, hr => by
   simp only [V.ren, V.Rep] at hr ⊢
   exact hs.own i c (hi i (by simp [V.ids])) hr
 | .map i, c, hi, hr => by
   simp only [V.ren, V.Rep] at hr ⊢
   obtain ⟨b, hb, rfl⟩ := hr
   exact ⟨b, by rw [hs.at_ i (hi i (by simp [V.ids]))]; exact hb, rfl⟩
 | .yld i, c, hi, hr => by
   simp only [V.ren, V.Rep] at hr ⊢
   obtain ⟨b, hb, rfl⟩ := hr
   exact ⟨b, by rw [hs.at_ i (hi i (by simp [V.ids]))]; exact hb, rfl⟩
 | .stamp i, c, hi, hr => by
   simp only [V.ren, V.Rep] at hr ⊢
   obtain ⟨b, hb, rfl⟩ := hr
   exact ⟨b, by rw [hs.at_ i (hi i (by simp [V.ids]))]; exact hb, rfl⟩
 | .fn f a b, c, hi, hr => by
   simp only [V.ren, V.Rep] at hr ⊢
   obtain ⟨x, y, rfl, h1, h2⟩ := hr
   exact ⟨x, y, rfl, V.RepL.ren hs a _ (fun i h => hi i (by simp [V.ids, h])) h1, V.RepL.ren hs b _ (fun i h => hi i (by simp [V.ids, h])) h2⟩
 | .iface t x, c, hi, hr => by
   simp only [V.ren, V.Rep] at hr ⊢
   obtain ⟨u, rfl, hu⟩ := hr
   exact ⟨u, rfl, V.Rep.ren hs x u (by simpa [V.ids] using hi) hu⟩
theorem V.RepL.ren (hs : Moved w w' A A' η η' h h' ρ I) : (l : List V) → (cs : List Value) → (∀ i ∈ V.idsL l, I i) → V.RepL w A η h l cs → V.RepL w' A' η' h' (V.renL ρ l) cs
 | [], _, _, hr => by simp only [V.renL, V.RepL] at hr ⊢; exact hr
 | v :: l, cs, hi, hr => by
   simp only [V.renL, V.RepL] at hr ⊢
   obtain ⟨c, cs, rfl, h1, h2⟩ := hr
   exact ⟨c, cs, rfl, V.Rep.ren hs v c (fun i h => hi i (by simp [V.idsL, h])) h1, V.RepL.ren hs l cs (fun i h => hi i (by simp [V.idsL, h])) h2⟩
end
theorem Ob.ren_ids (ρ : Nat → Nat) (o : Ob) : (o.ren ρ).ids = o.ids.map ρ := by
 have e : ∀ l : List V, V.renL ρ l = l.map (V.ren ρ) := fun l => by
  induction l with
  | nil => rfl
  | cons v l ih => simp only [V.renL, List.map_cons, ih]
 cases o <;> simp only [Ob.ren, Ob.ids, List.map_nil]
 ·exact V.renL_ids ρ _
 ·simp
 ·simp
 ·rename_i y fr st
  rw [← V.renL_ids, e, List.map_map, List.map_map]; rfl
theorem ObRep.ren {gl : Gl} (hs : Moved w w' A A' η η' h h' ρ I) {i : Nat} {o : Ob} (hi : I i) (hd : ∀ j ∈ o.ids, I j)
  (hb : ∀ b, η i = some b → o ≠ .dead → w'.heap[b]? = w.heap[b]?) (ho : ObRep gl w A η h i o) : ObRep gl w' A' η' h' (ρ i) (o.ren ρ) := by
 have he : η' (ρ i) = η i := hs.at_ i hi
 cases o with
 | var l =>
   obtain ⟨b, c, T, h1, h2, h3⟩ := ho
   exact ⟨b, c, T, by rw [he, h1], by rw [hb b h1 (by simp), h2], V.RepL.ren hs l _ hd h3⟩
 | arr r xs fz =>
   rcases ho with ⟨h1, h2⟩ | ⟨b, c, T, h1, h2, h3, h4, h5⟩
   ·exact .inl ⟨by rw [he, h1], h2⟩
   ·exact .inr ⟨b, c, T, by rw [he, h1], by rw [hb b h1 (by simp), h2], h3, fun hf => (hs.imm b (h4 hf)).1, fun k x hx => Ks.Rep.mono hs.imm r x b _ (hb b h1 (by simp)) (h5 k x hx)⟩
 | map kr ka vr va es =>
   obtain ⟨b, ents, clk, h1, h2, h3, h4⟩ := ho
   exact ⟨b, ents, clk, by rw [he, h1], by rw [hb b h1 (by simp), h2], EntsRep.mono hs.imm _ _ h3, h4⟩
 | lmap _ kr ka vr va es =>
   obtain ⟨b, ents, clk, h1, h2, h3, h4⟩ := ho
   exact ⟨b, ents, clk, by rw [he, h1], by rw [hb b h1 (by simp), h2], EntsRep.mono hs.imm _ _ h3, h4⟩
 | emap k kr ka vr va es key z =>
   obtain ⟨b, ents, clk, n, es', p, e, x, h1, h2, h3, h4, h5, h6⟩ := ho
   exact ⟨b, ents, clk, n, es', p, e, x, by rw [he, h1], by rw [hb b h1 (by simp), h2], by rw [hs.at_ k (hd k (by simp [Ob.ids])), h3], h4, EntsRep.mono hs.imm _ _ h5, h6⟩
 | iter s pos =>
   obtain ⟨b, h1, h2⟩ := ho
   exact ⟨b, by rw [he, h1], by rw [hb b h1 (by simp), h2]⟩
 | miter m kr ka vr va left cur =>
   obtain ⟨c, b, clk, since, seen, h1, h2, h3, h4⟩ := ho
   have hm : I m := hd m (by simp [Ob.ids])
   refine ⟨c, b, clk, since, seen, by rw [he, h1], by rw [hb c h1 (by simp), h2], by rw [hs.at_ m hm, h3], fun hl => ?_⟩
   obtain ⟨hl, hk⟩ := hs.lk m i hm hi hl
   obtain ⟨ents, h4, h5, h6, h7, h8⟩ := h4 hl
   exact ⟨ents, by rw [hk b h3, h4], h5, h6, EntsRep.mono hs.imm _ _ h7, fun x hx => by
    obtain ⟨stamp, e, g1, g2, g3, g4⟩ := h8 x hx
    exact ⟨stamp, e, g1, g2, g3.mono hs.imm, g4.mono hs.imm⟩⟩
 | loop y fr st =>
   obtain ⟨b, rec, q, h1, h2, h3, h4, h5, h6, h7, h8⟩ := ho
   exact ⟨b, rec, q, by rw [he, h1], by rw [hb b h1 (by simp), h2], h3, h4, h5, h6, h7, fun p hp => by
    obtain ⟨p', hp', rfl⟩ := List.mem_map.1 hp
    obtain ⟨c, g1, g2⟩ := h8 p' hp'
    exact ⟨c, g1, V.Rep.ren hs p'.2 c (fun i hi => hd i (idsL_mem (List.mem_map.2 ⟨p', hp', rfl⟩) i hi)) g2⟩⟩
 | dead => trivial
theorem OwnRep.arr {i j : Nat} (he : η' j = η i) (hh : h' j = (h i).map (Ob.ren ρ)) (hb : ∀ b, η i = some b → w'.heap[b]? = w.heap[b]?) {v : Value} (hv : OwnRep w η h i v) : OwnRep w' η' h' j v := by
 unfold OwnRep at *
 rw [hh]
 cases ho : h i with
 | none => rw [ho] at hv; exact hv
 | some o =>
   rw [ho] at hv
   cases o with
   | arr r xs fz =>
     rcases hv with ⟨h1, h2⟩ | ⟨b, cap, c, T, h1, h2, h3, h4, h5⟩
     ·exact .inl ⟨by rw [he, h1], h2⟩
     ·exact .inr ⟨b, cap, c, T, by rw [he, h1], h2, h3, (hb b h1).trans h4, h5⟩
   | _ => exact hv
end
section
variable {gl : Gl} {w : World} {A : ASet} {η : Nat → Option Nat} {h : Nat → Option Ob} {L : List Nat}
theorem hP_at {i : Nat} (hi : i ∈ L) : hP h L (posIn L i) = (h i).map (Ob.ren (posIn L)) := by unfold hP; rw [posIn_get hi]
theorem ηP_at {i : Nat} (hi : i ∈ L) : ηP η L (posIn L i) = η i := by unfold ηP; rw [posIn_get hi]
theorem pick_moved : Moved w w A A η (ηP η L) h (hP h L) (posIn L) (· ∈ L) where
 imm := fun b hb => ⟨hb, rfl⟩
 at_ := fun i hi => ηP_at hi
 own := fun i v hi hv => hv.arr (ηP_at hi) (hP_at hi) fun _ _ => rfl
 lk := fun j c hj hc ⟨kr, ka, vr, va, es, e⟩ => by
  rw [hP_at hj, Option.map_eq_some_iff] at e
  obtain ⟨o, h1, h2⟩ := e
  refine ⟨?_, fun _ _ => rfl⟩
  cases o with
  | lmap c0 kr' ka' vr' va' es' =>
    simp only [Ob.ren, Ob.lmap.injEq] at h2
    have h3 := h2.1
    have : c0 = c := posIn_inj (posIn_mem (by rw [h3]; exact posIn_lt hc)) hc h3
    exact ⟨_, _, _, _, _, this ▸ h1⟩
  | _ => simp [Ob.ren] at h2
theorem hP_some {j : Nat} {o : Ob} (hj : hP h L j = some o) : ∃ i o', L[j]? = some i ∧ h i = some o' ∧ o = o'.ren (posIn L) := by
 unfold hP at hj
 split at hj
 ·rename_i i hi
  rw [Option.map_eq_some_iff] at hj
  obtain ⟨o', h1, h2⟩ := hj
  exact ⟨i, o', hi, h1, h2.symm⟩
 ·cases hj
theorem Mut_ren {ρ : Nat → Nat} {h' : Nat → Option Ob} {i j : Nat} (e : h' j = (h i).map (Ob.ren ρ)) : Mut h' j ↔ Mut h i := by
 unfold Mut
 rw [e]
 cases h i with
 | none => rfl
 | some o => cases o <;> simp only [Option.map_some, Ob.ren]
theorem hP_mut {j : Nat} (hj : Mut (hP h L) j) : ∃ i, L[j]? = some i ∧ Mut h i ∧ ηP η L j = η i := by
 cases hi : L[j]? with
 | none => unfold Mut hP at hj; rw [hi] at hj; exact hj.elim
 | some i => exact ⟨i, rfl, (Mut_ren (h := h) (ρ := posIn L) (by unfold hP; rw [hi])).1 hj, by unfold ηP; rw [hi]⟩
theorem HeapOk.pick (ok : HeapOk gl w A η h) (hn : L.Nodup) (hc : ∀ i ∈ L, ∃ o, h i = some o ∧ ∀ j ∈ o.ids, j ∈ L) : HeapOk gl w A (ηP η L) (hP h L) where
 ob := fun j o hj => by
  obtain ⟨i, o', h1, h2, rfl⟩ := hP_some hj
  have hi := List.mem_of_getElem? h1
  obtain ⟨o₂, h3, h4⟩ := hc i hi
  rw [h2] at h3; cases h3
  have := (ok.ob i o' h2).ren (pick_moved (w := w) (A := A) (η := η) (h := h)) hi h4 fun _ _ _ => rfl
  rwa [posIn_of hn h1] at this
 inj := fun j k b hj hk hbj hbk => by
  obtain ⟨i, h1, h2, h3⟩ := hP_mut (η := η) hj
  obtain ⟨i', h4, h5, h6⟩ := hP_mut (η := η) hk
  rw [h3] at hbj; rw [h6] at hbk
  have := ok.inj i i' b h2 h5 hbj hbk
  subst this
  exact nodup_get hn h1 h4
 imm := ok.imm
 apart := fun j b hj hb => by
  obtain ⟨i, h1, h2, h3⟩ := hP_mut (η := η) hj
  rw [h3] at hb
  exact ok.apart i b h2 hb
 dom := fun j o hj k hk => by
  obtain ⟨i, o', h1, h2, rfl⟩ := hP_some hj
  obtain ⟨o₂, h3, h4⟩ := hc i (List.mem_of_getElem? h1)
  rw [h2] at h3; cases h3
  rw [Ob.ren_ids] at hk
  obtain ⟨x, hx, rfl⟩ := List.mem_map.1 hk
  have hxL := h4 x hx
  obtain ⟨o₃, h5, _⟩ := hc x hxL
  rw [hP_at hxL, h5]
  simp
 glob := ok.glob
theorem owned_pick {b : Nat} (ho : Owned (ηP η L) (hP h L) b) : Owned η h b := by
 obtain ⟨j, hj, hb⟩ := ho
 obtain ⟨i, h1, h2, h3⟩ := hP_mut (η := η) hj
 exact ⟨i, h2, h3 ▸ hb⟩
end
structure Link (m : Nat) (w : World) (A : ASet) (η : Nat → Option Nat) (h : Nat → Option Ob) (w' : World) (A' : ASet) (η' : Nat → Option Nat) (h' : Nat → Option Ob) : Prop where
 trans : Trans m w w' A A' η η' h h'
 imm : ∀ b, A b → w'.heap[b]? = w.heap[b]?
 own : ∀ i v, i < m → h i ≠ none → OwnRep w η h i v → OwnRep w' η' h' i v
 dom : ∀ i, i < m → h i ≠ none → h' i ≠ none
section
variable {gl : Gl} {m : Nat} {w w₁ w₂ : World} {A A₁ A₂ : ASet} {η η₁ η₂ : Nat → Option Nat} {h h₁ h₂ : Nat → Option Ob}
theorem HStep.link (st : HStep gl m w A η h w₁ A₁ η₁ h₁) : Link m w A η h w₁ A₁ η₁ h₁ :=
 ⟨st.trans, fun b hb => (st.still.imm b hb).2, fun i v _ hi hv => st.still.own i v hi hv, fun i _ hi => st.dom i hi⟩
theorem Link.trans' (a : Link m w A η h w₁ A₁ η₁ h₁) (b : Link m w₁ A₁ η₁ h₁ w₂ A₂ η₂ h₂) : Link m w A η h w₂ A₂ η₂ h₂ :=
 ⟨a.trans.trans b.trans, fun x hx => by rw [b.imm x (a.trans.immA x hx), a.imm x hx], fun i v hi hd hv => b.own i v hi (a.dom i hi hd) (a.own i v hi hd hv), fun i hi hd => b.dom i hi (a.dom i hi hd)⟩
theorem Link.pick {L : List Nat} (hm : ∀ j, j < m → L[j]? = some j) : Link m w A η h w A (ηP η L) (hP h L) where
 trans := ⟨Nat.le_refl _, fun _ _ _ => rfl, fun _ hb => hb, fun _ hb => .inl hb, fun _ hb => .inl (owned_pick hb), fun i hi => by unfold ηP; rw [hm i hi], ⟨rfl, rfl, rfl⟩, fun b c T fz hb => .inr ⟨c, T, hb⟩, fun b rec hb => ⟨rec, hb, rfl⟩⟩
 imm := fun _ _ => rfl
 own := fun i v hi hd hv => hv.arr (by unfold ηP; rw [hm i hi]) (by unfold hP; rw [hm i hi]) fun _ _ => rfl
 dom := fun i hi hd => by
  unfold hP; rw [hm i hi]
  dsimp only
  cases ho : h i with
  | none => exact (hd ho).elim
  | some o => simp
end
end Vm
namespace Vm
open Go
theorem allOf_spec {α R : Type} {l : List α} {f : Nat → α → Option R} {r : R} (h : allOf l f = some r) : ∀ i e, l[i]? = some e → f i e = some r := by
 unfold allOf at h
 split at h
 ·rename_i hx
  cases h
  exact hx.choose_spec
 ·cases h
theorem allOf_eq {α R : Type} {l : List α} {f : Nat → α → Option R} {r : R} (hl : l ≠ []) (h : ∀ i e, l[i]? = some e → f i e = some r) : allOf l f = some r := by
 have hx : ∃ r, ∀ i e, l[i]? = some e → f i e = some r := ⟨r, h⟩
 unfold allOf
 rw [dif_pos hx]
 match l, hl with
 | a :: l, _ =>
   have h1 := hx.choose_spec 0 a rfl
   have h2 := h 0 a rfl
   rw [h1] at h2
   exact h2
section
variable {w w' : World} {A A' : ASet} {kr vr : Ks} {ka va : Bool}
theorem EntsRep.get : {es : List (kr.Ty × vr.Ty)} → {l : List MapEntry} → EntsRep w A kr ka vr va es l → es.length = l.length ∧ ∀ (i : Nat) (x : kr.Ty × vr.Ty), es[i]? = some x → ∃ e : MapEntry, l[i]? = some e ∧ RowVal w A ka kr x.1 e.key ∧ RowVal w A va vr x.2 e.val
 | [], l, h => by simp only [EntsRep] at h; subst h; exact ⟨rfl, by simp⟩
 | (k, v) :: es, l, h => by
   simp only [EntsRep] at h
   obtain ⟨e, l', rfl, h1, h2, h3⟩ := h
   obtain ⟨h4, h5⟩ := EntsRep.get h3
   refine ⟨by simp [h4], fun i x hx => ?_⟩
   cases i with
   | zero => simp at hx; subst hx; exact ⟨e, rfl, h1, h2⟩
   | succ i => simp at hx ⊢; exact h5 i x hx
theorem EntsRep.erase : {es : List (kr.Ty × vr.Ty)} → {l : List MapEntry} → EntsRep w A kr ka vr va es l → ∀ i, EntsRep w A kr ka vr va (es.eraseIdx i) (l.eraseIdx i)
 | [], l, h, i => by simp only [EntsRep] at h; subst h; simp [EntsRep]
 | (k, v) :: es, l, h, i => by
   simp only [EntsRep] at h
   obtain ⟨e, l', rfl, h1, h2, h3⟩ := h
   cases i with
   | zero => simpa using h3
   | succ i => simp only [List.eraseIdx_cons_succ, EntsRep]; exact ⟨e, _, rfl, h1, h2, EntsRep.erase h3 i⟩
end
theorem filter_erase : {l : List MapEntry} → l.Pairwise (fun a b => a.born ≠ b.born) → ∀ {i : Nat} {e : MapEntry}, l[i]? = some e → l.filter (fun x => !(x.born == e.born)) = l.eraseIdx i
 | [], _, i, e, h => by simp at h
 | a :: l, hp, i, e, h => by
   obtain ⟨h1, h2⟩ := List.pairwise_cons.1 hp
   cases i with
   | zero =>
     simp at h; subst h
     rw [List.filter_cons_of_neg (by simp), List.eraseIdx_cons_zero]
     refine List.filter_eq_self.2 fun x hx => ?_
     have := h1 x hx
     simp; exact fun e => this e.symm
   | succ i =>
     simp at h
     have hm : e ∈ l := List.mem_of_getElem? h
     rw [List.filter_cons_of_pos (by have := h1 e hm; simpa using this), List.eraseIdx_cons_succ, filter_erase h2 h]
theorem find_born : {l : List MapEntry} → l.Pairwise (fun a b => a.born ≠ b.born) → ∀ {e : MapEntry}, e ∈ l → l.find? (fun x => x.born == e.born) = some e
 | [], _, e, h => by cases h
 | a :: l, hp, e, h => by
   obtain ⟨h1, h2⟩ := List.pairwise_cons.1 hp
   rcases List.mem_cons.1 h with rfl | h
   ·rw [List.find?_cons_of_pos (by simp)]
   ·rw [List.find?_cons_of_neg (by have := h1 e h; simpa using this), find_born h2 h]
section ops
variable {P : Program} {E : Env} {gl : Gl} {m : Nat} {w : World} {A : ASet} {η : Nat → Option Nat} {fr : Nat → Option V} {h : Nat → Option Ob} {a : Act} {nx : Nat}
theorem mapNext_runs (hgl : E.gl = gl) (hs : SOk gl w A η fr h a.tmps) {o : Oper} {x : Operand} {j wd : Nat} (ho : o.op = .next x false) (hx : ev E fr x = some (.ref j 0 wd 0)) {kr : Ks} {ka : Bool} {vr : Ks} {va : Bool} {left : List (kr.Ty × vr.Ty)} {cur : Option (kr.Ty × vr.Ty)}
  {mm : Nat} (hi : h j = some (.miter mm kr ka vr va left cur)) (hlk : Lock h mm j) :
  (left.length = 0 → (execOp a.eval o).run P w = .ok (.value (.tuple #[.bool false])) w) ∧
  (left.length ≠ 0 → ∃ i e v w', left[i]? = some e ∧ (execOp a.eval o).run P w = .ok (.value v) w' ∧ HStep gl m w A η h w' A η (ovr h j (.miter mm kr ka vr va (left.eraseIdx i) (some e))) ∧
    V.Rep w' A η (ovr h j (.miter mm kr ka vr va (left.eraseIdx i) (some e))) (.tuple [.bool true, rowV ka kr e.1, rowV va vr e.2]) v) := by
 have rx := (ev_rep hgl hs hx).1
 simp only [V.Rep] at rx
 obtain ⟨c, hc, rx⟩ := rx
 obtain ⟨c', b, clk, since, seen, h1, h2, h3, hq⟩ := hs.heap.ob j _ hi
 rw [hc] at h1; cases h1
 obtain ⟨ents, h4, h5, h6, h7, h8⟩ := hq hlk
 have gr : ∀ n, (getObj c).run P { w with drawn := n } = .ok (.mapIter (some b) since seen clk) { w with drawn := n } := fun n => by simp [getObj, Sem.run, h2]
 have gr0 : (getObj c).run P w = .ok (.mapIter (some b) since seen clk) w := by simp [getObj, Sem.run, h2]
 have gm : (getObj b).run P w = .ok (.map ents clk) w := MapKept.run_getObj_map h4
 have sr : ∀ n o', (setObj c o').run P { w with drawn := n } = .ok () { w with drawn := n, heap := w.heap.setIfInBounds c o' } := fun n o' => by simp [setObj, Sem.run, h2]
 have sr0 : ∀ o', (setObj c o').run P w = .ok () { w with heap := w.heap.setIfInBounds c o' } := fun o' => by simp [setObj, Sem.run, h2]
 have hbad : (!seen.isEmpty && !ents.isEmpty && ents.all fun x => decide (x.born ≥ clk)) = false := by
  rw [Bool.eq_false_iff]
  intro hb
  simp only [Bool.and_eq_true, Bool.not_eq_true', Array.all_eq_true', decide_eq_true_eq] at hb
  obtain ⟨⟨_, hne⟩, hall⟩ := hb
  have : ents.size ≠ 0 := fun e => by simp [Array.isEmpty, e] at hne
  have hm : ents[0]'(by omega) ∈ ents := Array.getElem_mem _
  have g1 := hall _ hm
  have g2 := h6.1 _ (Array.mem_toList_iff.2 hm)
  omega
 obtain ⟨hlen, hget⟩ := h7.get
 have hold : ((ents.filter fun e => !seen.contains e.born).filter fun x => decide (x.born < since)) = ents.filter fun e => !seen.contains e.born := by
  apply Array.toList_inj.1
  simp only [Array.toList_filter]
  exact List.filter_eq_self.2 fun e he => by simpa using h5 e (List.mem_filter.1 he).1
 have hnew : ((ents.filter fun e => !seen.contains e.born).filter fun x => decide (x.born ≥ since)) = #[] := by
  apply Array.toList_inj.1
  simp only [Array.toList_filter]
  exact List.filter_eq_nil_iff.2 fun e he => by have := h5 e (List.mem_filter.1 he).1; simp; omega
 have hsz : (ents.filter fun e => !seen.contains e.born).size = left.length := by
  rw [← Array.length_toList, Array.toList_filter, hlen]
 have ex : (execOp a.eval o).run P w = ((Instr.next (a.eval x) false o.type).run P w).andThen fun v w' => .ok (.value v) w' := by
  simp only [execOp, ho, Sem.run_bind, Sem.run_pure]
 refine ⟨fun h0 => ?_, fun h0 => ?_⟩
 ·have he : ents.filter (fun e => !seen.contains e.born) = #[] := Array.eq_empty_of_size_eq_zero (by omega)
  rw [ex]
  simp only [Instr.next, rx, Nat.zero_mul, Nat.add_zero, Sem.run_bind, gr0, Result.andThen_ok, gm, hbad, Bool.false_eq_true, if_false, Sem.run_pure, hold, hnew, he]
  simp [choose, Sem.run, Question.forced]
 ·
  have hne : (ents.filter (fun e => !seen.contains e.born)).isEmpty = false := by
   rw [Array.isEmpty, hsz]; simpa using h0
  have step : ∀ (i : Nat) (n : Nat), i < left.length → ∃ e v, left[i]? = some e ∧
    (∀ (w1 : World), w1 = { w with drawn := n } → ((match ((ents.filter fun e => !seen.contains e.born).map some)[i]? with
      | some (some e) => (do setObj c (.mapIter (some b) since (seen.push e.born) clk); pure (.tuple #[.bool true, e.key, e.val]) : Sem Value)
      | some none => pure (.tuple #[.bool false])
      | none => stuck "Next: no such candidate") : Sem Value).run P w1 = .ok v { w with drawn := n, heap := w.heap.setIfInBounds c (.mapIter (some b) since (seen.push ((ents.filter fun e => !seen.contains e.born)[i]!.born)) clk) }) ∧
    HStep gl m w A η h { w with drawn := n, heap := w.heap.setIfInBounds c (.mapIter (some b) since (seen.push ((ents.filter fun e => !seen.contains e.born)[i]!.born)) clk) } A η (ovr h j (.miter mm kr ka vr va (left.eraseIdx i) (some e))) ∧
    V.Rep { w with drawn := n, heap := w.heap.setIfInBounds c (.mapIter (some b) since (seen.push ((ents.filter fun e => !seen.contains e.born)[i]!.born)) clk) } A η (ovr h j (.miter mm kr ka vr va (left.eraseIdx i) (some e))) (.tuple [.bool true, rowV ka kr e.1, rowV va vr e.2]) v := by
   intro i n hlt
   have he : left[i]? = some left[i] := List.getElem?_eq_getElem hlt
   obtain ⟨ent, g1, g2, g3⟩ := hget i _ he
   have g1' : (ents.filter fun e => !seen.contains e.born)[i]? = some ent := by
    rw [← Array.getElem?_toList, Array.toList_filter]; exact g1
   have g1b : (ents.filter fun e => !seen.contains e.born)[i]! = ent := by
    rw [Array.getElem!_eq_getD, Array.getD_eq_getD_getElem?, g1']; rfl
   rw [g1b]
   have hmem : ent ∈ ents.toList := (List.mem_filter.1 (List.mem_of_getElem? g1)).1
   refine ⟨left[i], .tuple #[.bool true, ent.key, ent.val], he, ?_, ?_, ?_⟩
   ·rintro w1 rfl
    rw [Array.getElem?_map, g1']
    simp only [Option.map_some, Sem.run_bind, sr, Result.andThen_ok, Sem.run_pure]
   ·have st0 := HStep.drew (m := m) hs.heap n
    refine st0.trans' (HStep.turn (w := { w with drawn := n }) st0.ok (.of (y := .mapIter (some b) since seen clk) h2 (by intro rec e; cases e)) (by intro c T fz e; cases e <;> rfl) hi (by unfold Mut; rw [hi]; trivial) hc
     (fun u hu => by unfold OwnRep at hu ⊢; rw [ovr_same]; rw [hi] at hu; exact hu) (by intro k hk; simp only [Ob.ids, List.mem_singleton] at hk; subst hk; obtain ⟨_, _, _, _, _, e⟩ := hlk; rw [e]; simp) fun st => ?_)
    have hcb : b ≠ c := fun e => by rw [e, h2] at h4; cases h4
    refine ⟨c, b, clk, since, seen.push ent.born, hc, by simp [(Array.getElem?_eq_some_iff.1 h2).1], h3, fun _ => ⟨ents, by rw [Array.getElem?_setIfInBounds_ne (Ne.symm hcb)]; exact h4, h5, h6, ?_, ?_⟩⟩
    ·have e1 : ents.toList.filter (fun e => !(seen.push ent.born).contains e.born) = (ents.toList.filter fun e => !seen.contains e.born).filter fun e => !(e.born == ent.born) := by
       rw [List.filter_filter]
       apply List.filter_congr
       intro y _
       simp only [Array.contains_push, Bool.not_or]
       rw [Bool.and_comm]
     rw [e1, filter_erase (h6.2.filter _) g1]
     exact EntsRep.mono st.imm _ _ ((EntsRep.mono st0.still.imm _ _ h7).erase i)
    ·intro y hy
     cases hy
     refine ⟨ent.born, ent, by simp, ?_, (g2.mono st0.still.imm).mono st.imm, (g3.mono st0.still.imm).mono st.imm⟩
     rw [← Array.find?_toList]
     exact find_born h6.2 hmem
   ·simp only [V.Rep, V.RepL]
    have hA : ∀ b', A b' → A b' ∧ (w.heap.setIfInBounds c (.mapIter (some b) since (seen.push ent.born) clk))[b']? = w.heap[b']? := fun b' hb' => ⟨hb', Array.getElem?_setIfInBounds_ne fun (e : c = b') => hs.heap.apart j c (by unfold Mut; rw [hi]; trivial) hc (by rw [e]; exact hb')⟩
    exact ⟨_, rfl, _, _, rfl, rfl, _, _, rfl, rowV_rep (g2.mono hA), _, _, rfl, rowV_rep (g3.mono hA), rfl⟩
  by_cases h1 : left.length = 1
  ·obtain ⟨e, v, s1, s2, s3, s4⟩ := step 0 w.drawn (by omega)
   refine ⟨0, e, v, _, s1, ?_, s3, s4⟩
   rw [ex]
   simp only [Instr.next, rx, Nat.zero_mul, Nat.add_zero, Sem.run_bind, gr0, Result.andThen_ok, gm, hbad, Bool.false_eq_true, if_false, Sem.run_pure, hold, hnew, hne, Array.append_empty, Array.empty_append]
   simp only [Array.size_map, hsz, h1]
   have e2 := s2 w rfl
   simp only [choose, Sem.run, Question.forced]
   simp only [Nat.le_refl, decide_true, if_true, Result.andThen_ok, Sem.run]
   erw [e2]
   rfl
  ·have hmod : w.tape w.drawn (.mapNext left.length) % left.length < left.length := Nat.mod_lt _ (by omega)
   obtain ⟨e, v, s1, s2, s3, s4⟩ := step _ (w.drawn + 1) hmod
   refine ⟨_, e, v, _, s1, ?_, s3, s4⟩
   rw [ex]
   simp only [Instr.next, rx, Nat.zero_mul, Nat.add_zero, Sem.run_bind, gr0, Result.andThen_ok, gm, hbad, Bool.false_eq_true, if_false, Sem.run_pure, hold, hnew, hne, Array.append_empty, Array.empty_append]
   simp only [Array.size_map, hsz]
   have e2 := s2 { w with drawn := w.drawn + 1 } rfl
   have hf : decide (left.length ≤ 1) = false := decide_eq_false (by omega)
   simp only [choose, Sem.run, Question.forced, Question.cut, hf, Bool.false_eq_true, if_false, Result.andThen_ok]
   erw [e2]
   rfl
end ops
end Vm
namespace Vm
open Go
theorem stepsIn_FR {P : Program} {ρ : Option Nat} {m m' : Machine} : StepsIn (Machine.fenced P (FR ρ)) P m m' ↔ Steps P m m' := stepsIn_wide
def EndAt (out : Nat) (todo : List Item) : Prop :=
 (out = 0 ∧ todo = []) ∨ (out = 1 ∧ ∃ k, todo = .code .ret :: k) ∨ ∃ id k, out = id + 2 ∧ todo = .code (.exit id) :: k ∧ exitTo id k = none
def Ends (P : Program) (b : Frame) (cs : List Frame) (todo : List Item) (a : Act) (w : World) (R : Nat → Act → World → Prop) : Prop :=
 ∃ out a' w' todo', R out a' w' ∧ EndAt out todo' ∧ Steps P (lone (b.atR a todo) cs w) (lone (b.atR a' todo') cs w')
section
variable {P : Program} {b : Frame} {cs : List Frame} {todo todo' : List Item} {a a' : Act} {w w' : World} {R : Nat → Act → World → Prop}
theorem Ends.step (hs : step P (lone (b.atR a todo) cs w) = .next (lone (b.atR a' todo') cs w')) (h : Ends P b cs todo' a' w' R) : Ends P b cs todo a w R := by
 obtain ⟨o, a₁, w₁, t₁, h1, h2, h3⟩ := h
 exact ⟨o, a₁, w₁, t₁, h1, h2, .head hs h3⟩
theorem Ends.steps (hs : Steps P (lone (b.atR a todo) cs w) (lone (b.atR a' todo') cs w')) (h : Ends P b cs todo' a' w' R) : Ends P b cs todo a w R := by
 obtain ⟨o, a₁, w₁, t₁, h1, h2, h3⟩ := h
 exact ⟨o, a₁, w₁, t₁, h1, h2, Steps.trans hs h3⟩
end
def RfOk (rf : Nat → Option RF) (nt : Nat) (cs : Cuts) : Code → Prop
 | .rangeFunc _ ps a b => ∀ y keep, loopCut cs a b = some (y :: keep) → rf y = some ⟨ps, a, b, nt⟩
 | .seq a b | .cond _ a b => RfOk rf nt cs a ∧ RfOk rf nt cs b
 | .block _ a | .loop a | .scope a => RfOk rf nt cs a
 | _ => True
def ItemOk (nt : Nat) (rf : Nat → Option RF) (cs : Cuts) (rd : Bool) : Item → Prop
 | .code c | .inLoop c => codeB nt c = true ∧ RfOk rf nt cs c
 | .beginRound => rd = true
 | _ => True
def bare : List Item → List Item
 | [] => []
 | .endRangeFunc _ :: _ => []
 | x :: t => x :: bare t
def Well : List Item → Prop
 | [] => True
 | .endRangeFunc _ :: t => t = []
 | _ :: t => Well t
theorem exitTo_bare : {id : Nat} → {t t' : List Item} → Well t → exitTo id t = some t' → exitTo id (bare t) = some (bare t') ∧ Well t' ∧ inRound t' = inRound t
 | id, [], t', _, h => by simp [exitTo] at h
 | id, x :: t, t', hw, h => by
   cases x with
   | endRangeFunc l =>
     simp only [Well] at hw
     subst hw
     simp [exitTo] at h
   | inBlock id' =>
     simp only [Well] at hw
     simp only [exitTo] at h
     simp only [bare, exitTo, inRound]
     split at h
     ·rename_i e
      cases h
      rw [if_pos e]
      exact ⟨rfl, hw, rfl⟩
     ·rename_i e
      rw [if_neg e]
      exact exitTo_bare hw h
   | _ =>
     simp only [Well] at hw
     simp only [exitTo] at h
     simp only [bare, exitTo, inRound]
     exact exitTo_bare hw h
theorem exitTo_none : {id : Nat} → {t : List Item} → exitTo id t = none → exitTo id (bare t) = none
 | id, [], h => rfl
 | id, x :: t, h => by
   cases x with
   | endRangeFunc l => rfl
   | inBlock id' =>
     simp only [exitTo] at h
     simp only [bare, exitTo]
     split at h
     ·cases h
     ·rename_i e
      rw [if_neg e]
      exact exitTo_none h
   | _ =>
     simp only [exitTo] at h
     simp only [bare, exitTo]
     exact exitTo_none h
theorem exitTo_mem : {id : Nat} → {t t' : List Item} → exitTo id t = some t' → ∀ x ∈ t', x ∈ t
 | id, [], t', h => by simp [exitTo] at h
 | id, x :: t, t', h => fun y hy => by
   unfold exitTo at h
   split at h
   ·rename_i e
    injection e with e1 e2
    subst e2
    split at h
    ·cases h; exact List.mem_cons_of_mem _ hy
    ·exact List.mem_cons_of_mem _ (exitTo_mem h y hy)
   ·rename_i e
    injection e with e1 e2
    subst e2
    exact List.mem_cons_of_mem _ (exitTo_mem h y hy)
   ·cases h
section
variable {P : Program} {E : Env} {gl : Gl} {m nt : Nat} {ds : List Deferred} {ρ : Option Nat}
def only (R : Act → World → Prop) : Exit → Act → World → Prop
 | .normal, a, w => R a w
 | _, _, _ => False
theorem draw_any (hE : Ready P E) (hgl : E.gl = gl) {ops : Array Oper} (hd : dstsB nt ops = true) (hb : ordB ops = true) {s : St} {S : Type} {r : S} {k : St → List Foot → Option S} (hm : m ≤ s.nx)
  (hv : vops E ops true 0 ops.toList s [] k = some r) (hk : ∀ s' ft, k s' ft = some r → footsOk (ancs ops.toList []) ft = true)
  {w : World} {A : ASet} {η : Nat → Option Nat} {a : Act} (hs : SOk gl w A η (look s.fr) (look s.hp) a.tmps) (ha : AOk nt ds a) {R : Act → World → Prop}
  (hR : ∀ s' ft a' w' A' η', k s' ft = some r → s'.nx = s.nx → HStep gl m w A η (look s.hp) w' A' η' (look s'.hp) → SOk gl w' A' η' (look s'.fr) (look s'.hp) a'.tmps → AOk nt ds a' → R a' w') :
  wpAnyIn (FR ρ) 0 P .any ops (only R) ops.size (Array.replicate ops.size false) a { w with drawn := w.drawn + 1 } := by
 unfold ordB at hb
 simp only [Bool.and_eq_true] at hb
 obtain ⟨⟨hab, hns⟩, hsl⟩ := hb
 obtain ⟨hall, s', ft, h1, h2, h3, h4, h5⟩ := vops_text (nx := s.nx) hE.nat (look s.fr, look s.hp) k ops.toList 0 s [] (by simp) rfl rfl rfl hv
 have hall' := fun j => hall j (Nat.zero_le j)
 have hft := hk s' ft h1
 rw [h5 rfl] at hft
 simp only [List.nil_append, Nat.sub_zero] at hft
 have hdr := HStep.drew (m := m) hs.heap (w.drawn + 1)
 have hs1 : SOk gl { w with drawn := w.drawn + 1 } A η (frA E ops s.nx (look s.fr, look s.hp) []) (hA E ops s.nx (look s.fr, look s.hp) []) a.tmps :=
  ⟨hdr.ok, fun t v hv => by
    obtain ⟨⟨c, g1, g2⟩, g3⟩ := hs.fr t v hv
    exact ⟨⟨c, g1, hdr.rep g3 g2⟩, g3⟩⟩
 refine draw_sound hall' hab hsl hft hE hgl hm hd ops.size [] _ .nil .nil (by simp) (fun i hi => by simp [hi]) (by simp) (by simp) _ A η a hs1 ha fun a' w' A' η' st hs' ha' => ?_
 exact hR s' ft a' w' A' η' h1 h4 (by rw [h3]; exact hdr.trans' st) (by rw [h2, h3]; exact hs') ha'
theorem dstsB_ord {nt : Nat} {ops : Array Oper} {x y : Nat} {τ : List Nat} (h : dstsB nt ops = true) : dstsB nt (ordOps ops x y τ) = true := by
 unfold dstsB at h ⊢
 rw [List.all_eq_true] at h ⊢
 intro o ho
 unfold ordOps at ho
 simp only [List.mem_filterMap, Option.map_eq_some_iff] at ho
 obtain ⟨i, _, o', h1, rfl⟩ := ho
 rw [relab_dst]
 exact h o' (by simpa using Array.mem_of_getElem? h1)
theorem split_sound (hP : P.follows .mixedOrders = true) (hE : Ready P E) (hgl : E.gl = gl) {id : Nat} {ops : Array Oper} (hd : dstsB nt ops = true) {x y : Nat} {τ : List Nat} (hp : permB ops.size τ = true) (hx : x < ops.size) (hy : y < ops.size) (hne : x ≠ y) {s : St} {S : Type} {r : S} {k : St → Option S} (hm : m ≤ s.nx)
  (h₁ : vhalf E (ordOps ops x y (List.range ops.size)) s k = some r) (h₂ : vhalf E (ordOps ops y x τ) s k = some r)
  {w : World} {A : ASet} {η : Nat → Option Nat} {a : Act} (hs : SOk gl w A η (look s.fr) (look s.hp) a.tmps) (ha : AOk nt ds a) {R : Act → World → Prop}
  (hR : ∀ s' a' w' A' η', k s' = some r → s'.nx = s.nx → HStep gl m w A η (look s.hp) w' A' η' (look s'.hp) → SOk gl w' A' η' (look s'.fr) (look s'.hp) a'.tmps → AOk nt ds a' → R a' w') :
  (Code.region id ops true).wpIn (FR ρ) 0 P (only R) a w := by
 have half : ∀ {x y : Nat} {τ : List Nat}, vhalf E (ordOps ops x y τ) s k = some r → wpAnyIn (FR ρ) 0 P .any (ordOps ops x y τ) (only R) (ordOps ops x y τ).size (Array.replicate (ordOps ops x y τ).size false) a { w with drawn := w.drawn + 1 } := fun {x y τ} h => by
  unfold vhalf at h
  cases hb : ordB (ordOps ops x y τ) with
  | false => rw [hb, cond_false] at h; cases h
  | true =>
    rw [hb, cond_true] at h
    refine draw_any hE hgl (dstsB_ord hd) hb hm h (fun s' ft hk => ?_) hs ha (fun s' ft a' w' A' η' hk => ?_)
    ·cases hf : footsOk (ancs (ordOps ops x y τ).toList []) ft with
     | true => rfl
     | false => rw [hf, cond_false] at hk; cases hk
    ·cases hf : footsOk (ancs (ordOps ops x y τ).toList []) ft with
     | true => rw [hf, cond_true] at hk; exact hR s' a' w' A' η' hk
     | false => rw [hf, cond_false] at hk; cases hk
 exact split_region hP hne hx hy ⟨List.nodup_range, by simp, by simp⟩ (permB_spec hp) (half h₁) (half h₂)
theorem stepR_scope {b : Frame} {a : Act} {k : List Item} {cs : List Frame} {w : World} {c : Code} : step P (lone (b.atR a (.code (.scope c) :: k)) cs w) = .next (lone (b.atR a (.code c :: .inScope c :: k)) cs w) :=
 step_lone_go (by simp [stepG, stepG.exec, Frame.atR])
theorem stepR_inScope {b : Frame} {a : Act} {k : List Item} {cs : List Frame} {w : World} {c : Code} : step P (lone (b.atR a (.inScope c :: k)) cs w) = .next (lone (b.atR a k) cs w) :=
 step_lone_go (by simp [stepG, stepG.exec, Frame.atR])
theorem region_sound (hP : P.follows .mixedOrders = true) (hE : Ready P E) (hgl : E.gl = gl) {id : Nat} {ops : Array Oper} {draw : Bool} (hb : regionB nt ops draw = true) {s : St} {S : Type} {r : S} {k : St → List Foot → Option S} (hm : m ≤ s.nx)
  (hv : vops E ops draw 0 ops.toList s [] k = some r) (hk : ∀ s' ft, k s' ft = some r → draw = true → footsOk (ancs ops.toList []) ft = true)
  {w : World} {A : ASet} {η : Nat → Option Nat} {a : Act} (hs : SOk gl w A η (look s.fr) (look s.hp) a.tmps) (ha : AOk nt ds a) {R : Act → World → Prop}
  (hR : ∀ s' ft a' w' A' η', k s' ft = some r → s'.nx = s.nx → HStep gl m w A η (look s.hp) w' A' η' (look s'.hp) → SOk gl w' A' η' (look s'.fr) (look s'.hp) a'.tmps → AOk nt ds a' → R a' w') :
  (Code.region id ops draw).wpIn (FR ρ) 0 P (only R) a w := by
 unfold regionB at hb
 simp only [Bool.and_eq_true, Bool.or_eq_true, Bool.not_eq_true'] at hb
 obtain ⟨hd, hb⟩ := hb
 obtain ⟨hall, s', ft, h1, h2, h3, h4, h5⟩ := vops_text (nx := s.nx) hE.nat (look s.fr, look s.hp) k ops.toList 0 s [] (by simp) rfl rfl rfl hv
 have hall' := fun j => hall j (Nat.zero_le j)
 cases draw with
 | false =>
   refine wpIn_region ?_
   rw [List.range_eq_range']
   refine text_sound hE hgl hm hd _ hall ops.size 0 (Nat.le_refl _) (by simp) w A η a hs ha fun a' w' A' η' st hs' ha' => ?_
   exact hR s' ft a' w' A' η' h1 h4 (by rw [h3]; exact st) (by rw [h2, h3]; exact hs') ha'
 | true =>
   have hb := hb.resolve_left (by simp)
   obtain ⟨⟨hab, hns⟩, hsl⟩ := hb
   have hft := hk s' ft h1 rfl
   rw [h5 rfl] at hft
   simp only [List.nil_append, Nat.sub_zero] at hft
   have hdr := HStep.drew (m := m) hs.heap (w.drawn + 1)
   refine wpIn_region_any hP ?_
   have hs1 : SOk gl { w with drawn := w.drawn + 1 } A η (frA E ops s.nx (look s.fr, look s.hp) []) (hA E ops s.nx (look s.fr, look s.hp) []) a.tmps :=
    ⟨hdr.ok, fun t v hv => by
      obtain ⟨⟨c, g1, g2⟩, g3⟩ := hs.fr t v hv
      exact ⟨⟨c, g1, hdr.rep g3 g2⟩, g3⟩⟩
   refine draw_sound hall' hab hsl hft hE hgl hm hd ops.size [] _ .nil .nil (by simp) (fun i hi => by simp [hi]) (by simp) (by simp) _ A η a hs1 ha fun a' w' A' η' st hs' ha' => ?_
   exact hR s' ft a' w' A' η' h1 h4 (by rw [h3]; exact hdr.trans' st) (by rw [h2, h3]; exact hs') ha'
theorem next_sound (hP : P.follows .mixedOrders = true) (hE : Ready P E) (hgl : E.gl = gl) {id : Nat} {ops : Array Oper} (hb : regionB nt ops false = true) {d : Nat} {x : Operand} (hn : nextOf ops = some (d, x)) {s : St} {S : Type} {r : S} {k : St → List Foot → Option S} (hm : m ≤ s.nx)
  {j wd : Nat} {kr : Ks} {ka : Bool} {vr : Ks} {va : Bool} {left : List (kr.Ty × vr.Ty)} {cur : Option (kr.Ty × vr.Ty)} (hx : ev E (look s.fr) x = some (.ref j 0 wd 0)) {mm : Nat} (hj : look s.hp j = some (.miter mm kr ka vr va left cur)) (hlk : Lock (look s.hp) mm j)
  (h0 : left.length = 0 → vops E ops false 1 (ops.toList.drop 1) ⟨(d, .tuple [.bool false]) :: s.fr, unlock (look s.hp) mm ++ s.hp, s.nx⟩ [] k = some r)
  (h1 : left.length ≠ 0 → ∀ i e, left[i]? = some e → vops E ops false 1 (ops.toList.drop 1) ⟨(d, .tuple [.bool true, rowV ka kr e.1, rowV va vr e.2]) :: s.fr, (j, .miter mm kr ka vr va (left.eraseIdx i) (some e)) :: s.hp, s.nx⟩ [] k = some r)
  {w : World} {A : ASet} {η : Nat → Option Nat} {a : Act} (hs : SOk gl w A η (look s.fr) (look s.hp) a.tmps) (ha : AOk nt ds a) {R : Act → World → Prop}
  (hR : ∀ s' ft a' w' A' η', k s' ft = some r → s'.nx = s.nx → HStep gl m w A η (look s.hp) w' A' η' (look s'.hp) → SOk gl w' A' η' (look s'.fr) (look s'.hp) a'.tmps → AOk nt ds a' → R a' w') :
  (Code.region id ops false).wpIn (FR ρ) 0 P (only R) a w := by
 unfold regionB at hb
 simp only [Bool.and_eq_true, Bool.or_eq_true, Bool.not_eq_true'] at hb
 obtain ⟨hd, _⟩ := hb
 unfold nextOf at hn
 split at hn
 ·rename_i o ho
  split at hn
  ·rename_i d' x' hdst hop hg
   simp only [Option.some.injEq, Prod.mk.injEq] at hn
   obtain ⟨rfl, rfl⟩ := hn
   have hsz : 0 < ops.size := (Array.getElem?_eq_some_iff.1 ho).1
   have hdt : d' < a.tmps.size := by rw [ha.1]; exact dstsB_spec hd ho hdst
   obtain ⟨m1, m2⟩ := mapNext_runs (P := P) (m := m) hgl hs hop hx hj hlk
   have rest : ∀ (v : V) (hp : List (Nat × Ob)) (c : Value) (w1 : World) (A1 : ASet) (η1 : Nat → Option Nat), vops E ops false 1 (ops.toList.drop 1) ⟨(d', v) :: s.fr, hp, s.nx⟩ [] k = some r →
     HStep gl m w A η (look s.hp) w1 A1 η1 (look hp) → V.Rep w1 A1 η1 (look hp) v c → v.ids = [] → (execOp a.eval o).run P w = .ok (.value c) w1 → (Code.region id ops false).wpIn (FR ρ) 0 P (only R) a w := by
    intro v hp c w1 A1 η1 hv st hr hids hrun
    refine wpIn_region ?_
    rw [List.range_eq_range', show ops.size = (ops.size - 1) + 1 from by omega, List.range'_succ, wpOpsIn_cons]
    unfold wpOpIn
    rw [ho]
    dsimp only
    have hw : Region.wanted o (yielded ops a.tmps) = true := by unfold Region.wanted; rw [hg]
    rw [if_pos hw]
    refine ⟨fun _ _ => trivial, ?_⟩
    rw [Oper.semAt_eq _ _ _ (by intro c e; rw [hop] at e; cases e), hrun]
    show wpOpsIn (FR ρ) 0 P ops (only R) (List.range' (0 + 1) (ops.size - 1)) (a.put o.dst c) w1
    obtain ⟨hall, s', ft, g1, g2, g3, g4, g5⟩ := vops_text (nx := s.nx) hE.nat (putFn (look s.fr) (some d') v, look hp) k (ops.toList.drop 1) 1 ⟨(d', v) :: s.fr, hp, s.nx⟩ [] rfl (by
     have e : tst E ops s.nx (putFn (look s.fr) (some d') v, look hp) 1 = (putFn (look s.fr) (some d') v, look hp) := by
      have : tvalAt E ops s.nx (putFn (look s.fr) (some d') v, look hp) 0 = none := by
       unfold tvalAt
       rw [ho]
       dsimp only
       unfold gsays
       rw [hg]
       dsimp only
       unfold veff effNext
       rw [hop]
       dsimp only
       repeat' split
       all_goals first | rfl | simp
      simp only [tst, this]
     rw [e]
     funext t; simp only [look, putFn]) (by
     have e : tst E ops s.nx (putFn (look s.fr) (some d') v, look hp) 1 = (putFn (look s.fr) (some d') v, look hp) := by
      have : tvalAt E ops s.nx (putFn (look s.fr) (some d') v, look hp) 0 = none := by
       unfold tvalAt
       rw [ho]
       dsimp only
       unfold gsays
       rw [hg]
       dsimp only
       unfold veff effNext
       rw [hop]
       dsimp only
       repeat' split
       all_goals first | rfl | simp
      simp only [tst, this]
     rw [e]) rfl hv
    have e1 : tst E ops s.nx (putFn (look s.fr) (some d') v, look hp) 1 = (putFn (look s.fr) (some d') v, look hp) := by
     have : tvalAt E ops s.nx (putFn (look s.fr) (some d') v, look hp) 0 = none := by
      unfold tvalAt
      rw [ho]
      dsimp only
      unfold gsays
      rw [hg]
      dsimp only
      unfold veff effNext
      rw [hop]
      dsimp only
      repeat' split
      all_goals first | rfl | simp
     simp only [tst, this]
    have hs1 : SOk gl w1 A1 η1 (putFn (look s.fr) (some d') v) (look hp) (a.put o.dst c).tmps := by
     rw [hdst]
     exact hs.step st hr (by rw [hids]; simp) (fun d e => by cases e; exact hdt)
    refine text_sound hE hgl hm hd _ hall (ops.size - 1) 1 (Nat.le_refl _) (by omega) w1 A1 η1 _ (by rw [e1]; exact hs1) (ha.put _ _) fun a' w' A' η' st' hs' ha' => ?_
    rw [e1] at st'
    exact hR s' ft a' w' A' η' g1 g4 (by rw [g3]; exact st.trans' st') (by rw [g2, g3]; exact hs') ha'
   by_cases hl : left.length = 0
   ·obtain ⟨kr', ka', vr', va', es', el⟩ := hlk
    have eu : look (unlock (look s.hp) mm ++ s.hp) = ovr (look s.hp) mm (.map kr' ka' vr' va' es') := by
     funext t; simp only [unlock, el, List.singleton_append, look, ovr]
    exact rest _ _ _ w A η (h0 hl) (by rw [eu]; exact HStep.unlock hs.heap el) (by simp only [V.Rep, V.RepL]; exact ⟨_, rfl, _, _, rfl, rfl, rfl⟩) (by simp [V.ids, V.idsL]) (m1 hl)
   ·obtain ⟨i, e, c, w1, q1, q2, q3, q4⟩ := m2 hl
    have eh : look ((j, Ob.miter mm kr ka vr va (left.eraseIdx i) (some e)) :: s.hp) = ovr (look s.hp) j (.miter mm kr ka vr va (left.eraseIdx i) (some e)) := by
     funext t; simp only [look, ovr]
    exact rest _ _ _ w1 A η (h1 hl i e q1) (by rw [eh]; exact q3) (by rw [eh]; exact q4) (by simp [V.ids, V.idsL, rowV_ids]) q2
  ·cases hn
 ·cases hn
theorem frs_spec {s : St} : {l : List Nat} → {r : List (Nat × V)} → frs s l = some r → ∀ p ∈ r, look s.fr p.1 = some p.2
 | [], r, h => by simp only [frs, Option.some.injEq] at h; subst h; simp
 | t :: l, r, h => by
   simp only [frs] at h
   split at h
   ·rename_i v r' h1 h2
    cases h
    intro p hp
    rcases List.mem_cons.1 hp with rfl | hp
    ·exact h1
    ·exact frs_spec h2 p hp
   ·cases h
theorem look_mem {α : Type} : {l : List (Nat × α)} → {t : Nat} → {x : α} → look l t = some x → (t, x) ∈ l
 | [], t, x, h => by simp [look] at h
 | (i, y) :: l, t, x, h => by
   simp only [look] at h
   split at h
   ·rename_i e; cases h; subst e; simp
   ·simp [look_mem h]
theorem norm_sound {keep : List Nat} {s s' : St} (hn : norm m keep s = some s') {w : World} {A : ASet} {η : Nat → Option Nat} {tm : Array Value} (hs : SOk gl w A η (look s.fr) (look s.hp) tm) :
  ∃ η', SOk gl w A η' (look s'.fr) (look s'.hp) tm ∧ Link m w A η (look s.hp) w A η' (look s'.hp) ∧ m ≤ s'.nx := by
 unfold norm at hn
 split at hn
 ·cases hn
 ·rename_i fr hfr
  split at hn
  ·cases hn
  ·rename_i L hL
   split at hn
   ·cases hn
   ·rename_i os hos
    cases hn
    have ho := order_spec hL
    obtain ⟨hf1, hf2, hf3⟩ := ho.first
    simp only [List.length_range] at hf1 hf2
    dsimp only
    rw [look_obs, obs_hP hos]
    refine ⟨ηP η L, ⟨hs.heap.pick ho.nodup ho.closed, fun t v hv => ?_⟩, .pick fun j hj => by rw [hf2 j hj]; simp [hj], by rw [(obsOf_spec hos).1]; exact hf1⟩
    have := look_mem hv
    obtain ⟨⟨t', u⟩, hu, e⟩ := List.mem_map.1 this
    cases e
    have hids : ∀ i ∈ u.ids, i ∈ L := fun i hi => ho.sub i (idsL_mem (List.mem_map.2 ⟨(t', u), hu, rfl⟩) i hi)
    obtain ⟨⟨c, g1, g2⟩, g3⟩ := hs.fr t' u (frs_spec hfr _ hu)
    refine ⟨⟨c, g1, V.Rep.ren pick_moved u c hids g2⟩, fun i hi => ?_⟩
    rw [V.ren_ids] at hi
    obtain ⟨x, hx, rfl⟩ := List.mem_map.1 hi
    rw [hP_at (hids x hx)]
    obtain ⟨o, h1, _⟩ := ho.closed x (hids x hx)
    rw [h1]; simp
def DOk (n₀ : Nat) (w : World) (A : ASet) (η : Nat → Option Nat) (h : Nat → Option Ob) : List Deferred → Prop
 | [] => True
 | d :: ds => (∃ D, d = { target := .collected D, args := #[] } ∧ n₀ ≤ D ∧ w.heap[D]? = some (.deferred (some [])) ∧ ¬ Owned η h D ∧ ¬ A D ∧ ∀ d' ∈ ds, d'.target ≠ .collected D) ∧ DOk n₀ w A η h ds
theorem DOk.step {n₀ : Nat} {w w' : World} {A A' : ASet} {η η' : Nat → Option Nat} {h h' : Nat → Option Ob} (ht : Trans m w w' A A' η η' h h') : {ds : List Deferred} → DOk n₀ w A η h ds → DOk n₀ w' A' η' h' ds
 | [], _ => trivial
 | d :: ds, hd => by
   obtain ⟨⟨D, h1, h2, h3, h4, h5, h6⟩, h7⟩ := hd
   have hlt : D < w.heap.size := (Array.getElem?_eq_some_iff.1 h3).1
   refine ⟨⟨D, h1, h2, by rw [ht.kept D hlt h4]; exact h3, fun ho => ?_, fun ha => ?_, h6⟩, DOk.step ht h7⟩
   ·rcases ht.newM D ho with h | h
    ·exact h4 h
    ·omega
   ·rcases ht.newA D ha with h | h | h
    ·exact h5 h
    ·exact h4 h
    ·omega
theorem DOk.lt {n₀ : Nat} {w : World} {A : ASet} {η : Nat → Option Nat} {h : Nat → Option Ob} : {ds : List Deferred} → DOk n₀ w A η h ds → ∀ d ∈ ds, ∀ D, d.target = .collected D → D < w.heap.size
 | [], _, d, hd, D, e => by cases hd
 | d :: ds, ⟨⟨D₀, h1, h2, h3, _⟩, h7⟩, d', hd, D, e => by
   rcases List.mem_cons.1 hd with rfl | hd
   ·rw [h1] at e; cases e; exact (Array.getElem?_eq_some_iff.1 h3).1
   ·exact DOk.lt h7 d' hd D e
section code
variable {S : Type} {r : S} {cuts : Cuts} {rd : Bool} {R : Nat → Act → World → Prop} {b : Frame} {cs : List Frame}
variable {w₀ : World} {A₀ : ASet} {η₀ : Nat → Option Nat} {h₀ : Nat → Option Ob}
def RCtx (rd : Bool) (m : Nat) (w₀ : World) (η₀ : Nat → Option Nat) (ρ : Option Nat) : Prop :=
 (rd = false ∧ ρ = none) ∨ (rd = true ∧ ∃ l rec, ρ = some l ∧ 0 < m ∧ η₀ 0 = some l ∧ w₀.heap[l]? = some (.loop rec))
structure Come (gl : Gl) (m nt : Nat) (w₀ : World) (A₀ : ASet) (η₀ : Nat → Option Nat) (h₀ : Nat → Option Ob) (s : St) (a : Act) (w : World) : Prop where
 ok : ∃ A η, SOk gl w A η (look s.fr) (look s.hp) a.tmps ∧ Link m w₀ A₀ η₀ h₀ w A η (look s.hp) ∧ DOk w₀.heap.size w A η (look s.hp) a.defers
 act : a.tmps.size = nt
 le : m ≤ s.nx
def jumpOf : Nat → List Item
 | 0 => []
 | 1 => []
 | 2 => []
 | 3 => [.code .ret]
 | id + 4 => [.code (.exit id)]
theorem look_ovr (hp : List (Nat × Ob)) (i : Nat) (o : Ob) : look ((i, o) :: hp) = ovr (look hp) i o := by funext t; simp only [look, ovr]
theorem range_sound (hE : Ready P E) (hgl : E.gl = gl) (hrc : RCtx rd m w₀ η₀ ρ) (hbρ : b.roundOf = ρ) {f : Operand} {ps : Array Tmp} {assign body : Code} {k : List Item} {s : St} {y : Nat} {keep : List Nat} {fr0 : List (Nat × V)} {g : Nat} {x z : List V}
  (hrf : gl.rf y = some ⟨ps, assign, body, nt⟩) (hf : ev E (look s.fr) f = some (.fn g x z)) (hfr : frs s keep = some fr0) (hb : E.hasBody g = true) (hfree : look s.hp s.nx = none) {v : V} {up : List (Nat × Ob)}
  (hcall : vcall E (look ((s.nx, .loop y fr0 0) :: s.hp)) (s.nx + 1) g (x ++ [.yld s.nx] ++ z) one = some (v, up)) {y' : Nat} {fr' : List (Nat × V)} {st : Nat} (hl : look (up ++ (s.nx, .loop y fr0 0) :: s.hp) s.nx = some (.loop y' fr' st)) (hst : st ≠ 1 ∧ st ≠ 2)
  {a : Act} {w : World} (hc : Come gl m nt w₀ A₀ η₀ h₀ s a w) :
  ∃ a' w', Come gl m nt w₀ A₀ η₀ h₀ ⟨fr', (s.nx, .dead) :: (up ++ (s.nx, .loop y fr0 0) :: s.hp), s.nx + 64000⟩ a' w' ∧ Steps P (lone (b.atR a (.code (.rangeFunc f ps assign body) :: k)) cs w) (lone (b.atR a' (jumpOf st ++ k)) cs w') := by
 obtain ⟨A, η, hs, hlk, hd⟩ := hc.ok
 obtain ⟨hx1, hx2⟩ := ev_rep hgl hs hf
 simp only [V.Rep] at hx1
 obtain ⟨X, Z, hfe, hX, hZ⟩ := hx1
 have hw0 : w₀.heap.size ≤ w.heap.size := hlk.trans.size
 have enter : ∃ mark w1 rec, (Instr.enterLoop b.fn a.tmps ps assign body b.roundOf).run P w = .ok (w1.heap.size, mark) { w1 with heap := w1.heap.push (.loop rec) } ∧ HStep gl m w A η (look s.hp) w1 A η (look s.hp) ∧
   rec.tmps = a.tmps ∧ rec.params = ps ∧ rec.assign = assign ∧ rec.body = body ∧ rec.state = .ready ∧ rec.pending = none ∧ DOk w₀.heap.size w1 A η (look s.hp) (mark ++ a.defers) := by
  rcases hrc with ⟨_, hρ⟩ | ⟨_, l, rec₀, hρ, hm0, hη0, hl0⟩
  ·refine ⟨[{ target := .collected w.heap.size, args := #[] }], { w with heap := w.heap.push (.deferred (some [])) }, { state := .ready, pending := none, fn := b.fn, tmps := a.tmps, params := ps, assign, body, defers := w.heap.size }, ?_, HStep.push hs.heap (by intro c T fz e; cases e), rfl, rfl, rfl, rfl, rfl, rfl, ?_⟩
   ·rw [hbρ, hρ]
    simp [Instr.enterLoop, newObj, Sem.run]
    rfl
   ·have st := HStep.push (m := m) (x := .deferred (some [])) hs.heap (by intro c T fz e; cases e)
    refine ⟨⟨w.heap.size, rfl, hw0, by simp, fun ⟨i, hi, hbi⟩ => ?_, fun hA => ?_, fun d' hd' e => ?_⟩, hd.step st.trans⟩
    ·have := hs.heap.block hi hbi; omega
    ·have := hs.heap.imm _ hA; omega
    ·have := hd.lt d' hd' _ e; omega
  ·obtain ⟨rec', h1, _⟩ := hlk.trans.tie l rec₀ hl0
   refine ⟨[], w, { state := .ready, pending := none, fn := b.fn, tmps := a.tmps, params := ps, assign, body, defers := rec'.defers }, ?_, .refl hs.heap, rfl, rfl, rfl, rfl, rfl, rfl, hd⟩
   rw [hbρ, hρ]
   simp [Instr.enterLoop, Instr.getLoop, getObj, newObj, Sem.run, h1]
 obtain ⟨mark, w1, rec, he, st1, r1, r2, r3, r4, r5, r6, hd1⟩ := enter
 have hids : ∀ p ∈ fr0, (∃ c, a.tmps[p.1]? = some c ∧ V.Rep w A η (look s.hp) p.2 c) ∧ ∀ i ∈ p.2.ids, look s.hp i ≠ none := fun p hp => hs.fr p.1 p.2 (frs_spec hfr p hp)
 have st2 := HStep.new (gl := gl) (m := m) st1.ok (i := s.nx) (o := .loop y fr0 0) (x := .loop rec) (by intro c T fz e; cases e) hfree hc.le (fun j hj => by
   simp only [Ob.ids] at hj
   have : ∀ l : List (Nat × V), (∀ p ∈ l, ∀ i ∈ p.2.ids, look s.hp i ≠ none) → j ∈ V.idsL (l.map (·.2)) → look s.hp j ≠ none := by
    intro l
    induction l with
    | nil => intro _ h; simp [V.idsL] at h
    | cons p l ih =>
      intro h1 h2
      simp only [List.map_cons, V.idsL, List.mem_append] at h2
      rcases h2 with h2 | h2
      ·exact h1 p (by simp) j h2
      ·exact ih (fun q hq => h1 q (by simp [hq])) h2
   exact this fr0 (fun p hp => (hids p hp).2) hj) fun st =>
  ⟨w1.heap.size, rec, ⟨ps, assign, body, nt⟩, upd_same _ _ _, by simp, hrf, ⟨r2, by rw [r1]; exact hc.act⟩, r3, r4, ⟨r5, r6⟩, fun p hp => by
    obtain ⟨⟨c, g1, g2⟩, g3⟩ := hids p hp
    exact ⟨c, by rw [r1]; exact g1, V.Rep.mono st p.2 c g3 (st1.rep g3 g2)⟩⟩
 obtain ⟨hg1, fn, c₀, hfn, hbody, hname⟩ := hE.body g hb
 have hw2 : ({ w1 with heap := w1.heap.push (.loop rec) } : World).heap[w1.heap.size]? = some (.loop rec) := by simp
 generalize hW2 : ({ w1 with heap := w1.heap.push (.loop rec) } : World) = w2 at *
 rw [look_ovr] at hcall
 have hrep : V.RepL w2 A (upd η s.nx (some w1.heap.size)) (ovr (look s.hp) s.nx (.loop y fr0 0)) (x ++ [.yld s.nx] ++ z) (X ++ #[Value.func (.yield w1.heap.size) #[] #[]] ++ Z).toList := by
  have stA := st1.trans' st2
  simp only [Array.toList_append]
  refine ((stA.repL (fun i hi => hx2 i (by simp [V.ids, hi])) hX).append ?_).append (stA.repL (fun i hi => hx2 i (by simp [V.ids, hi])) hZ)
  simp only [V.RepL, V.Rep]
  exact ⟨_, _, rfl, ⟨_, upd_same _ _ _, rfl⟩, rfl⟩
 have hdom : ∀ i ∈ V.idsL (x ++ [.yld s.nx] ++ z), ovr (look s.hp) s.nx (.loop y fr0 0) i ≠ none := fun i hi => by
  rw [V.idsL_append, V.idsL_append] at hi
  simp only [List.mem_append, V.idsL, V.ids, List.append_nil, List.mem_singleton] at hi
  rcases hi with (hi | hi) | hi
  ·exact ovr_dom (hx2 i (by simp [V.ids, hi]))
  ·subst hi; rw [ovr_same]; simp
  ·exact ovr_dom (hx2 i (by simp [V.ids, hi]))
 have hup := hE.calls gl m w2 A _ _ (s.nx + 1) g _ v up hgl st2.ok (by have := hc.le; omega) hcall _ hrep hdom { (default : Oper) with dst := none } a (fun _ _ _ => False)
  (fun _ w3 => ∃ A3 η3, HStep gl m w2 A (upd η s.nx (some w1.heap.size)) (ovr (look s.hp) s.nx (.loop y fr0 0)) w3 A3 η3 (ups up (ovr (look s.hp) s.nx (.loop y fr0 0)))) (fun c w3 A3 η3 q1 _ _ => ⟨A3, η3, q1⟩)
 have hcf : (callFunc g (X ++ #[Value.func (.yield w1.heap.size) #[] #[]] ++ Z)).run P w2 = .ok (.enter g (X ++ #[Value.func (.yield w1.heap.size) #[] #[]] ++ Z)) w2 := by
  have hn : (fn.name == "runtime.NumGoroutine") = false := by simpa using hname
  simp only [callFunc, Sem.run_bind, run_program, Result.andThen_ok, hfn]
  simp [hn, hbody]
 unfold callV at hup
 rw [if_pos hg1, hcf, Oper.uponIn_enter] at hup
 obtain ⟨_, _, hcalls⟩ := hup
 obtain ⟨e, w3, frm, hR, hcomes, hfn', hleave⟩ := hcalls (b.atR { a with defers := mark ++ a.defers } (.inRangeFunc w1.heap.size :: k) :: cs) (room_wide _)
 have hstep1 := stepR_rangeFunc (P := P) (b := b) (a := a) (k := k) (cs := cs) (w := w) (g := f) (ps := ps) (assign := assign) (body := body) (l := w1.heap.size) (mark := mark) (w₁ := w2) (w₁' := w2) (w₂ := w2)
  (d := { target := .fn (.func g) Z, args := X ++ #[Value.func (.yield w1.heap.size) #[] #[]] }) (f := g) (args := X ++ #[Value.func (.yield w1.heap.size) #[] #[]] ++ Z) he (by
    simp only [resolve, hfe, Deferred.ofValue, Sem.run_pure]
    simp [Act.eval]) (by simp only [invoke]; exact hcf)
 cases e with
 | panicked chain => exact hR.elim
 | outgrown => obtain ⟨_, _, h⟩ := hR; exact h.elim
 | returned u =>
   obtain ⟨A3, η3, st3⟩ := hR
   have hsteps : Steps P (lone (Frame.enter P g (X ++ #[Value.func (.yield w1.heap.size) #[] #[]] ++ Z) .normal) (b.atR { a with defers := mark ++ a.defers } (.inRangeFunc w1.heap.size :: k) :: cs) w2) (lone frm (b.atR { a with defers := mark ++ a.defers } (.inRangeFunc w1.heap.size :: k) :: cs) w3) := StepsIn.steps hcomes
   have hback := step_leave_returned hleave (c := b.atR { a with defers := mark ++ a.defers } (.inRangeFunc w1.heap.size :: k)) (cs := cs)
   rw [finish_atR_inRangeFunc] at hback
   have eup : look (up ++ (s.nx, Ob.loop y fr0 0) :: s.hp) = ups up (ovr (look s.hp) s.nx (.loop y fr0 0)) := by rw [← look_ovr, ups_look]
   rw [eup] at hl
   obtain ⟨b3, rec3, q3, k1, k2, k3, ⟨k4, k4'⟩, k5, k6, k7, k8⟩ := st3.ok.ob s.nx _ hl
   have eη : η3 s.nx = some w1.heap.size := by rw [st3.still.at_ s.nx (by rw [ovr_same]; simp), upd_same]
   rw [eη] at k1; cases k1
   have htm : rec3.tmps = a.tmps := by
    obtain ⟨rec', t1, t2⟩ := st3.trans.tie _ _ hw2
    rw [k2] at t1; cases t1
    rw [t2, r1]
   have hnb : (rec3.state == .busy) = false ∧ (rec3.pending.map Item.code).toList = jumpOf st := by
    match st, hst, k7 with
    | 0, _, k7 => exact ⟨by rw [k7.1]; rfl, by rw [k7.2]; rfl⟩
    | 3, _, k7 => exact ⟨by rw [k7.1]; rfl, by rw [k7.2]; rfl⟩
    | id + 4, _, k7 => exact ⟨by rw [k7.1]; rfl, by rw [k7.2]; rfl⟩
   have hend : (Instr.endLoop w1.heap.size).run P w3 = .ok rec3.pending { w3 with heap := w3.heap.setIfInBounds w1.heap.size (.loop { rec3 with state := .exhausted }) } := by
    simp only [Instr.endLoop, Instr.getLoop, Sem.run_bind, getObj, Sem.run, k2, Result.andThen_ok, hnb.1, Bool.false_eq_true, if_false, Sem.run_pure, setObj]
   have hstep2 := stepR_endRangeFunc (P := P) (b := b) (a := { a with defers := mark ++ a.defers }) (k := k) (cs := cs) hend
   rw [hnb.2] at hstep2
   have hm3 : Mut (ups up (ovr (look s.hp) s.nx (.loop y fr0 0))) s.nx := by unfold Mut; rw [hl]; trivial
   have st4 := HStep.turn (gl := gl) (m := m) (o' := .loop y' fr' 2) (x := .loop { rec3 with state := .exhausted }) st3.ok (fun rec' e => ⟨{ rec3 with state := .exhausted }, rfl, by rw [k2] at e; cases e; rfl⟩) (by intro c T fz e; cases e) hl hm3 eη
    (fun u hu => by unfold OwnRep at hu ⊢; rw [ovr_same]; rw [hl] at hu; exact hu) (fun j hj => st3.ok.dom s.nx _ hl j hj) (fun st => ⟨w1.heap.size, { rec3 with state := .exhausted }, q3, eη, by simp [(Array.getElem?_eq_some_iff.1 k2).1], k3, ⟨k4, k4'⟩, k5, k6, trivial, fun p hp => by
      obtain ⟨c, g1, g2⟩ := k8 p hp
      exact ⟨c, g1, V.Rep.mono st p.2 c (fun i hi => st3.ok.dom s.nx _ hl i (idsL_mem (List.mem_map.2 ⟨p, hp, rfl⟩) i hi)) g2⟩⟩)
   have st5 := HStep.kill (m := m) st4.ok s.nx
   have st45 := st4.trans' st5
   have eovr : ovr (ovr (ups up (ovr (look s.hp) s.nx (.loop y fr0 0))) s.nx (.loop y' fr' 2)) s.nx .dead = look ((s.nx, .dead) :: (up ++ (s.nx, .loop y fr0 0) :: s.hp)) := by
    rw [look_ovr, eup]
    funext t
    unfold ovr
    split <;> rfl
   rw [eovr] at st45
   have stall := ((st1.trans' st2).trans' st3).trans' st45
   refine ⟨{ a with defers := mark ++ a.defers }, _, ⟨⟨A3, η3, ⟨st45.ok, fun t u hu => ?_⟩, hlk.trans' stall.link, ((hd1.step st2.trans).step st3.trans).step st45.trans⟩, hc.act, by have := hc.le; dsimp only; omega⟩, ?_⟩
   ·have hp := look_mem hu
    obtain ⟨c, g1, g2⟩ := k8 _ hp
    have gd : ∀ i ∈ u.ids, ups up (ovr (look s.hp) s.nx (.loop y fr0 0)) i ≠ none := fun i hi => st3.ok.dom s.nx _ hl i (idsL_mem (List.mem_map.2 ⟨_, hp, rfl⟩) i hi)
    exact ⟨⟨c, by rw [htm] at g1; exact g1, st45.rep gd g2⟩, fun i hi => st45.dom i (gd i hi)⟩
   ·exact .head hstep1 (Steps.trans hsteps (.head hback (.one hstep2)))
theorem vseg_sound (hP : P.follows .mixedOrders = true) (hE : Ready P E) (hgl : E.gl = gl) (hrc : RCtx rd m w₀ η₀ ρ) (hbρ : b.roundOf = ρ) {J : List Item → St → Option S} {k : St → Option S}
  (hJ : ∀ t s, J t s = some r → Well t → inRound t = rd → (∀ x ∈ t, ItemOk nt gl.rf cuts rd x) → ∀ a w, Come gl m nt w₀ A₀ η₀ h₀ s a w → Ends P b cs (bare t) a w R)
  (hk0 : rd = false → ∀ s, k s = some r → ∀ a w, Come gl m nt w₀ A₀ η₀ h₀ s a w → ∀ out, out < 2 → R out a w)
  (hk1 : rd = true → ∀ s out, k { s with nx := out } = some r → ∀ a w, Come gl m nt w₀ A₀ η₀ h₀ s a w → R out a w) :
  (n : Nat) → (first : Bool) → (todo : List Item) → (s : St) → vseg E cuts m J k n first todo s = some r → Well todo → inRound todo = rd → (∀ x ∈ todo, ItemOk nt gl.rf cuts rd x) → ∀ a w, Come gl m nt w₀ A₀ η₀ h₀ s a w → Ends P b cs (bare todo) a w R := by
 intro n
 induction n with
 | zero => intro first todo s hv; simp [vseg] at hv
 | succ n ih =>
   intro first todo s hv hwl hrd ht a w hc
   match todo, hv with
   | [], hv =>
     simp only [vseg] at hv
     simp only [inRound] at hrd
     exact ⟨0, a, w, [], hk0 hrd.symm s hv a w hc 0 (by omega), .inl ⟨rfl, rfl⟩, .refl _ _⟩
   | .endRangeFunc l :: t, hv =>
     simp only [vseg] at hv
     simp only [inRound] at hrd
     exact ⟨0, a, w, [], hk1 hrd.symm s 0 hv a w hc, .inl ⟨rfl, rfl⟩, .refl _ _⟩
   | .inBlock id :: t, hv =>
     simp only [vseg] at hv
     exact .step stepR_inBlock (ih first t s hv hwl hrd (fun x hx => ht x (List.mem_cons_of_mem _ hx)) a w hc)
   | .inScope c :: t, hv =>
     simp only [vseg] at hv
     exact .step stepR_inScope (ih first t s hv hwl hrd (fun x hx => ht x (List.mem_cons_of_mem _ hx)) a w hc)
   | .inLoop c :: t, hv =>
     simp only [vseg] at hv
     have h0 : ItemOk nt gl.rf cuts rd (.inLoop c) := ht _ (by simp)
     refine .step stepR_inLoop (ih first _ s hv hwl hrd (fun x hx => ?_) a w hc)
     rcases List.mem_cons.1 hx with rfl | hx
     ·exact h0
     ·exact ht x hx
   | .beginRound :: t, hv =>
     simp only [vseg] at hv
     have h0 : ItemOk nt gl.rf cuts rd .beginRound := ht _ (by simp)
     simp only [ItemOk] at h0
     split at hv
     ·rename_i y fr st hlk
      cases hst : decide (st = 0) with
      | false => rw [hst] at hv; cases hv
      | true =>
        rw [hst, cond_true] at hv
        have hst := of_decide_eq_true hst
        subst hst
        rcases hrc with ⟨hc1, _⟩ | ⟨_, l, rec₀, hρ, hm0, hη0, hl0⟩
        ·rw [hc1] at h0; cases h0
        ·obtain ⟨A, η, hs, hlnk, hd⟩ := hc.ok
         have eη : η 0 = some l := by rw [hlnk.trans.roots 0 hm0, hη0]
         obtain ⟨b', rec, q, k1, k2, k3, ⟨k4, k4'⟩, k5, k6, k7, k8⟩ := hs.heap.ob 0 _ hlk
         rw [eη] at k1; cases k1
         have hbr : (Instr.beginRound l).run P w = .ok () { w with heap := w.heap.setIfInBounds l (.loop { rec with state := .busy }) } := by
          simp only [Instr.beginRound, Instr.getLoop, Sem.run_bind, getObj, Sem.run, k2, Result.andThen_ok, Sem.run_pure, setObj, k7.1]
         have st := HStep.turn (gl := gl) (m := m) (o' := .loop y fr 1) (x := .loop { rec with state := .busy }) hs.heap (fun rec' e => ⟨{ rec with state := .busy }, rfl, by rw [k2] at e; cases e; rfl⟩) (by intro c T fz e; cases e) hlk (by unfold Mut; rw [hlk]; trivial) eη
          (fun u hu => by unfold OwnRep at hu ⊢; rw [ovr_same]; rw [hlk] at hu; exact hu) (fun j hj => hs.heap.dom 0 _ hlk j hj) (fun st => ⟨l, { rec with state := .busy }, q, eη, by simp [(Array.getElem?_eq_some_iff.1 k2).1], k3, ⟨k4, k4'⟩, k5, k6, rfl, fun p hp => by
            obtain ⟨c, g1, g2⟩ := k8 p hp
            exact ⟨c, g1, V.Rep.mono st p.2 c (fun i hi => hs.heap.dom 0 _ hlk i (idsL_mem (List.mem_map.2 ⟨p, hp, rfl⟩) i hi)) g2⟩⟩)
         rw [← look_ovr] at st
         refine .step (stepR_beginRound (by rw [hbρ, hρ]) hbr) (ih first t _ hv hwl hrd (fun x hx => ht x (List.mem_cons_of_mem _ hx)) a _ ⟨⟨A, η, ⟨st.ok, fun t u hu => ?_⟩, hlnk.trans' st.link, hd.step st.trans⟩, hc.act, hc.le⟩)
         obtain ⟨⟨c, g1, g2⟩, g3⟩ := hs.fr t u hu
         exact ⟨⟨c, g1, st.rep g3 g2⟩, fun i hi => st.dom i (g3 i hi)⟩
     ·cases hv
   | .code c :: t, hv =>
     have htc : ItemOk nt gl.rf cuts rd (.code c) := ht _ (by simp)
     have ht' : ∀ x ∈ t, ItemOk nt gl.rf cuts rd x := fun x hx => ht x (List.mem_cons_of_mem _ hx)
     have push : ∀ {l : List Item}, (∀ x ∈ l, ItemOk nt gl.rf cuts rd x) → ∀ x ∈ l ++ t, ItemOk nt gl.rf cuts rd x := fun h x hx => (List.mem_append.1 hx).elim (h x) (ht' x)
     have hwl : Well t := hwl
     have hrd2 : inRound t = rd := hrd
     simp only [ItemOk] at htc
     obtain ⟨htb, htr⟩ := htc
     simp only [bare]
     cases c with
     | skip =>
       simp only [vseg] at hv
       exact .step stepR_skip (ih first t s hv hwl hrd2 ht' a w hc)
     | seq x y =>
       simp only [vseg] at hv
       simp only [codeB, Bool.and_eq_true] at htb
       simp only [RfOk] at htr
       exact .step stepR_seq (ih first _ s hv hwl hrd2 (push (l := [.code x, .code y]) (by simp only [List.mem_cons, List.not_mem_nil, or_false]; rintro x (rfl | rfl); exact ⟨htb.1, htr.1⟩; exact ⟨htb.2, htr.2⟩)) a w hc)
     | cond c x y =>
       simp only [vseg] at hv
       simp only [codeB, Bool.and_eq_true] at htb
       simp only [RfOk] at htr
       split at hv
       ·rename_i b₁ hx
        obtain ⟨A, η, hs, hl, hd⟩ := hc.ok
        have he := (ev_rep hgl hs hx).1
        simp only [V.Rep] at he
        cases b₁
        ·simp only [cond_false] at hv
         exact .step (by have := stepR_cond (P := P) (b := b) (k := bare t) (cs := cs) (w := w) (x := x) (y := y) he; exact this) (ih first _ s hv hwl hrd2 (push (l := [.code y]) (by simp only [List.mem_cons, List.not_mem_nil, or_false]; rintro x rfl; exact ⟨htb.2, htr.2⟩)) a w hc)
        ·simp only [cond_true] at hv
         exact .step (by have := stepR_cond (P := P) (b := b) (k := bare t) (cs := cs) (w := w) (x := x) (y := y) he; exact this) (ih first _ s hv hwl hrd2 (push (l := [.code x]) (by simp only [List.mem_cons, List.not_mem_nil, or_false]; rintro x rfl; exact ⟨htb.1, htr.1⟩)) a w hc)
       ·cases hv
     | block id c =>
       simp only [vseg] at hv
       exact .step stepR_block (ih first _ s hv hwl hrd2 (push (l := [.code c, .inBlock id]) (by simp only [List.mem_cons, List.not_mem_nil, or_false]; rintro x (rfl | rfl); exact ⟨htb, htr⟩; exact trivial)) a w hc)
     | scope c =>
       simp only [vseg] at hv
       exact .step stepR_scope (ih first _ s hv hwl hrd2 (push (l := [.code c, .inScope c]) (by simp only [List.mem_cons, List.not_mem_nil, or_false]; rintro x (rfl | rfl); exact ⟨htb, htr⟩; exact trivial)) a w hc)
     | label id =>
       simp only [vseg] at hv
       exact .step stepR_label (ih first t s hv hwl hrd2 ht' a w hc)
     | exit id =>
       simp only [vseg] at hv
       split at hv
       ·rename_i t' he
        obtain ⟨e1, e2, e3⟩ := exitTo_bare hwl he
        exact .step (stepR_exit e1) (ih first t' s hv e2 (by rw [e3]; exact hrd2) (fun x hx => ht' x (exitTo_mem he x hx)) a w hc)
       ·rename_i he
        rw [hrd2] at hv
        cases hb : rd with
        | false => rw [hb] at hv; cases hv
        | true =>
          rw [hb, cond_true] at hv
          exact ⟨id + 2, a, w, _, hk1 hb s _ hv a w hc, .inr (.inr ⟨id, _, rfl, rfl, exitTo_none he⟩), .refl _ _⟩
     | loop c =>
       simp only [vseg] at hv
       exact .step stepR_loop (ih first _ s hv hwl hrd2 (push (l := [.code c, .inLoop c]) (by simp only [List.mem_cons, List.not_mem_nil, or_false]; rintro x (rfl | rfl); exact ⟨htb, htr⟩; exact ⟨htb, htr⟩)) a w hc)
     | ret =>
       simp only [vseg] at hv
       rw [hrd2] at hv
       cases hb : rd with
       | false =>
         rw [hb, cond_false] at hv
         exact ⟨1, a, w, _, hk0 hb s hv a w hc 1 (by omega), .inr (.inl ⟨rfl, _, rfl⟩), .refl _ _⟩
       | true =>
         rw [hb, cond_true] at hv
         exact ⟨1, a, w, _, hk1 hb s _ hv a w hc, .inr (.inl ⟨rfl, _, rfl⟩), .refl _ _⟩
     | rangeFunc f ps assign body =>
       simp only [vseg] at hv
       split at hv
       ·rename_i y keep hlc
        split at hv
        ·rename_i g x z fr0 hf hfr
         cases hb : (E.hasBody g && (look s.hp s.nx).isNone) with
         | false => rw [hb] at hv; cases hv
         | true =>
           rw [hb, cond_true] at hv
           simp only [Bool.and_eq_true, Option.isNone_iff_eq_none] at hb
           rw [vcall_thn hE.nat] at hv
           cases hcall : vcall E (look ((s.nx, .loop y fr0 0) :: s.hp)) (s.nx + 1) g (x ++ [.yld s.nx] ++ z) one with
           | none => rw [hcall] at hv; cases hv
           | some p =>
             obtain ⟨v, up⟩ := p
             rw [hcall, thn_some] at hv
             split at hv
             ·rename_i y' fr' st hl
              split at hv
              ·obtain ⟨a', w', c1, c2⟩ := range_sound (k := bare t) (b := b) (cs := cs) hE hgl hrc hbρ (htr y keep hlc) hf hfr hb.1 hb.2 hcall hl ⟨by omega, by omega⟩ hc
               exact .steps c2 (ih false t _ hv hwl hrd2 ht' a' w' c1)
              ·obtain ⟨a', w', c1, c2⟩ := range_sound (k := bare t) (b := b) (cs := cs) hE hgl hrc hbρ (htr y keep hlc) hf hfr hb.1 hb.2 hcall hl ⟨by omega, by omega⟩ hc
               exact .steps c2 (ih false (.code .ret :: t) _ hv hwl hrd2 (push (l := [.code .ret]) (by simp only [List.mem_cons, List.not_mem_nil, or_false]; rintro x rfl; exact ⟨rfl, trivial⟩)) a' w' c1)
              ·rename_i id
               obtain ⟨a', w', c1, c2⟩ := range_sound (k := bare t) (b := b) (cs := cs) hE hgl hrc hbρ (htr y keep hlc) hf hfr hb.1 hb.2 hcall hl ⟨by omega, by omega⟩ hc
               exact .steps c2 (ih false (.code (.exit id) :: t) _ hv hwl hrd2 (push (l := [.code (.exit id)]) (by simp only [List.mem_cons, List.not_mem_nil, or_false]; rintro x rfl; exact ⟨rfl, trivial⟩)) a' w' c1)
              ·cases hv
             ·cases hv
        ·cases hv
       ·cases hv
     | region id ops draw =>
       have back : (∃ A η, SOk gl w A η (look s.fr) (look s.hp) a.tmps ∧ Link m w₀ A₀ η₀ h₀ w A η (look s.hp) ∧ DOk w₀.heap.size w A η (look s.hp) a.defers ∧ (Code.region id ops draw).wpIn (FR ρ) 0 P (only fun a' w' => ∃ s' : St, vseg E cuts m J k n false t { s' with nx := s'.nx + 64000 } = some r ∧ s'.nx = s.nx ∧ a'.tmps.size = nt ∧ a'.defers = a.defers ∧
         ∃ A' η', HStep gl m w A η (look s.hp) w' A' η' (look s'.hp) ∧ SOk gl w' A' η' (look s'.fr) (look s'.hp) a'.tmps) a w) → Ends P b cs (.code (.region id ops draw) :: bare t) a w R := by
        rintro ⟨A, η, hs, hl, hd, hreg⟩
        obtain ⟨e, a', w', hq, harr⟩ := hreg b (bare t) cs hbρ trivial (fun d hd => by simp [FR, Fence.wide] at hd)
        cases e with
        | normal =>
          obtain ⟨s', h1, h2, h3, h4, A', η', st, hs'⟩ := hq
          exact .steps (stepsIn_FR.1 harr) (ih false t _ h1 hwl hrd2 ht' a' w' ⟨⟨A', η', hs', hl.trans' st.link, by rw [h4]; exact hd.step st.trans⟩, h3, by have := hc.le; dsimp only; omega⟩)
        | _ => exact hq.elim
       simp only [vseg] at hv
       have hrun0 : (match (bif E.nd && !draw then nextOf ops else none) with
        | none => vops E ops draw 0 ops.toList s [] fun s' ft =>
          bif !draw || footsOk (ancs ops.toList []) ft then vseg E cuts m J k n false t { s' with nx := s'.nx + 64000 } else none
        | some (d, x) => match ev E (look s.fr) x with
          | some (.ref j k₀ _ off) => match look s.hp j with
            | some (.miter mm kr ka vr va left cur) => bif decide (k₀ = 0 ∧ off = 0) && lockB (look s.hp) mm j then
               bif decide (left.length = 0) then vops E ops draw 1 (ops.toList.drop 1) ⟨(d, .tuple [.bool false]) :: s.fr, unlock (look s.hp) mm ++ s.hp, s.nx⟩ [] fun s' _ => vseg E cuts m J k n false t { s' with nx := s'.nx + 64000 }
               else allOf left fun i e => vops E ops draw 1 (ops.toList.drop 1) ⟨(d, .tuple [.bool true, rowV ka kr e.1, rowV va vr e.2]) :: s.fr, (j, .miter mm kr ka vr va (left.eraseIdx i) (some e)) :: s.hp, s.nx⟩ [] fun s' _ => vseg E cuts m J k n false t { s' with nx := s'.nx + 64000 }
              else none
            | _ => none
          | _ => none) = some r → Ends P b cs (.code (.region id ops draw) :: bare t) a w R := by
        intro hv
        obtain ⟨A, η, hs, hl, hd⟩ := hc.ok
        refine back ⟨A, η, hs, hl, hd, ?_⟩
        split at hv
        ·refine region_sound (id := id) hP hE hgl (nt := nt) (ds := a.defers) (m := m) htb hc.le hv (fun s' ft hk' hd => by
           subst hd
           simp only [Bool.not_true, Bool.false_or] at hk'
           cases hf : footsOk (ancs ops.toList []) ft with
           | true => rfl
           | false => rw [hf, cond_false] at hk'; cases hk') hs ⟨hc.act, rfl⟩ (fun s' ft a' w' A' η' hk' hnx st hs' ha' => ?_)
         cases hf : (!draw || footsOk (ancs ops.toList []) ft) with
         | false => rw [hf, cond_false] at hk'; cases hk'
         | true =>
           rw [hf, cond_true] at hk'
           exact ⟨s', hk', hnx, ha'.1, ha'.2, A', η', st, hs'⟩
        ·rename_i d x hnx
         cases hnd : (E.nd && !draw) with
         | false => rw [hnd] at hnx; cases hnx
         | true =>
           rw [hnd, cond_true] at hnx
           simp only [Bool.and_eq_true, Bool.not_eq_true'] at hnd
           obtain ⟨_, rfl⟩ := hnd
           split at hv
           ·rename_i j k₀ wd off hx
            split at hv
            ·rename_i mm kr ka vr va left cur hj
             cases hko : decide (k₀ = 0 ∧ off = 0) && lockB (look s.hp) mm j with
             | false => rw [hko] at hv; cases hv
             | true =>
               rw [hko, cond_true] at hv
               simp only [Bool.and_eq_true, decide_eq_true_eq] at hko
               obtain ⟨⟨rfl, rfl⟩, hlk⟩ := hko
               refine next_sound (id := id) hP hE hgl (nt := nt) (ds := a.defers) (m := m) htb hnx hc.le hx hj (lockB_lock hlk) (k := fun s' _ => vseg E cuts m J k n false t { s' with nx := s'.nx + 64000 }) (r := r) (fun h0 => ?_) (fun h0 i e he => ?_) hs ⟨hc.act, rfl⟩ (fun s' ft a' w' A' η' hk' hnx st hs' ha' => ⟨s', hk', hnx, ha'.1, ha'.2, A', η', st, hs'⟩)
               ·rw [decide_eq_true h0, cond_true] at hv; exact hv
               ·rw [decide_eq_false h0, cond_false] at hv; exact allOf_spec hv i e he
            ·cases hv
           ·cases hv
       have hrun : (match splitAt cuts id draw with
        | some (x :: y :: τ) => bif permB ops.size τ && (decide (x < ops.size) && decide (y < ops.size) && decide (x ≠ y)) then
         both (vhalf E (ordOps ops x y (List.range ops.size)) s fun s' => vseg E cuts m J k n false t { s' with nx := s'.nx + 64000 })
          (vhalf E (ordOps ops y x τ) s fun s' => vseg E cuts m J k n false t { s' with nx := s'.nx + 64000 }) else none
        | some _ => none
        | none => match (bif E.nd && !draw then nextOf ops else none) with
          | none => vops E ops draw 0 ops.toList s [] fun s' ft =>
            bif !draw || footsOk (ancs ops.toList []) ft then vseg E cuts m J k n false t { s' with nx := s'.nx + 64000 } else none
          | some (d, x) => match ev E (look s.fr) x with
            | some (.ref j k₀ _ off) => match look s.hp j with
              | some (.miter mm kr ka vr va left cur) => bif decide (k₀ = 0 ∧ off = 0) && lockB (look s.hp) mm j then
                 bif decide (left.length = 0) then vops E ops draw 1 (ops.toList.drop 1) ⟨(d, .tuple [.bool false]) :: s.fr, unlock (look s.hp) mm ++ s.hp, s.nx⟩ [] fun s' _ => vseg E cuts m J k n false t { s' with nx := s'.nx + 64000 }
                 else allOf left fun i e => vops E ops draw 1 (ops.toList.drop 1) ⟨(d, .tuple [.bool true, rowV ka kr e.1, rowV va vr e.2]) :: s.fr, (j, .miter mm kr ka vr va (left.eraseIdx i) (some e)) :: s.hp, s.nx⟩ [] fun s' _ => vseg E cuts m J k n false t { s' with nx := s'.nx + 64000 }
                else none
              | _ => none
            | _ => none) = some r → Ends P b cs (.code (.region id ops draw) :: bare t) a w R := by
        intro hv
        split at hv
        ·rename_i x y τ hsp
         cases hpb : (permB ops.size τ && (decide (x < ops.size) && decide (y < ops.size) && decide (x ≠ y))) with
         | false => rw [hpb, cond_false] at hv; cases hv
         | true =>
           rw [hpb, cond_true] at hv
           simp only [Bool.and_eq_true, decide_eq_true_eq] at hpb
           obtain ⟨hp, ⟨hx, hy⟩, hne⟩ := hpb
           obtain ⟨h1, h2⟩ := both_some hv
           cases draw with
           | false => cases hsp
           | true =>
             obtain ⟨A, η, hs, hl, hd⟩ := hc.ok
             have hdst : dstsB nt ops = true := by
              simp only [codeB, regionB, Bool.and_eq_true] at htb
              exact htb.1
             exact back ⟨A, η, hs, hl, hd, split_sound (id := id) hP hE hgl (nt := nt) (ds := a.defers) (m := m) hdst hp hx hy hne hc.le h1 h2 hs ⟨hc.act, rfl⟩ (fun s' a' w' A' η' hk' hnx st hs' ha' => ⟨s', hk', hnx, ha'.1, ha'.2, A', η', st, hs'⟩)⟩
        ·cases hv
        ·exact hrun0 hv
       split at hv
       ·exact hrun hv
       ·rename_i keep hcut
        split at hv
        ·exact hrun hv
        ·split at hv
         ·rename_i s' hn
          obtain ⟨A, η, hs, hl, hd⟩ := hc.ok
          obtain ⟨η', h1, h2, h3⟩ := norm_sound (m := m) (w := w) hn hs
          exact hJ _ _ hv hwl hrd2 ht a w ⟨⟨A, η', h1, hl.trans' h2, hd.step h2.trans⟩, hc.act, h3⟩
         ·cases hv
     | _ => simp [vseg] at hv
   | .inRegion _ _ :: t, hv => simp [vseg] at hv
   | .inRangeFunc _ :: t, hv => simp [vseg] at hv
   | .call _ _ _ _ :: t, hv => simp [vseg] at hv
   | .extern _ _ :: t, hv => simp [vseg] at hv
theorem vrun_sound (hP : P.follows .mixedOrders = true) (hE : Ready P E) (hgl : E.gl = gl) (hrc : RCtx rd m w₀ η₀ ρ) (hbρ : b.roundOf = ρ) {F : Nat} {k : St → Option S}
  (hk0 : rd = false → ∀ s, k s = some r → ∀ a w, Come gl m nt w₀ A₀ η₀ h₀ s a w → ∀ out, out < 2 → R out a w)
  (hk1 : rd = true → ∀ s out, k { s with nx := out } = some r → ∀ a w, Come gl m nt w₀ A₀ η₀ h₀ s a w → R out a w) :
  (n : Nat) → (todo : List Item) → (s : St) → vrun E cuts m F k n todo s = some r → Well todo → inRound todo = rd → (∀ x ∈ todo, ItemOk nt gl.rf cuts rd x) → ∀ a w, Come gl m nt w₀ A₀ η₀ h₀ s a w → Ends P b cs (bare todo) a w R
 | 0, todo, s, hv => by simp [vrun] at hv
 | n + 1, todo, s, hv => by
   simp only [vrun] at hv
   exact fun hw hr ht a w hc => vseg_sound hP hE hgl hrc hbρ (fun t s h hw hr ht a w hc => vrun_sound hP hE hgl hrc hbρ hk0 hk1 n t s h hw hr ht a w hc) hk0 hk1 F true todo s hv hw hr ht a w hc
end code
end
end Vm
namespace Vm
open Go
def ContractM (P : Program) (gl : Gl) (m : Nat) (f : Nat) (args : List V) (os : List Ob) (v : V) (os' : List Ob) : Prop :=
 ∀ (w : World) (A : ASet) (η : Nat → Option Nat), HeapOk gl w A η (obs os) → ∀ cs : Array Value, V.RepL w A η (obs os) args cs.toList → (∀ i ∈ V.idsL args, obs os i ≠ none) →
   ∀ (o : Oper) (a : Act) (Q : Exit → Act → World → Prop) (K : Act → World → Prop),
     (∀ c w' A' η', HeapOk gl w' A' η' (obs os') → Link m w A η (obs os) w' A' η' (obs os') → V.Rep w' A' η' (obs os') v c → (∀ i ∈ v.ids, obs os' i ≠ none) → K (a.put o.dst c) w') →
     o.uponIn Fence.wide 0 P a K Q ((callV f cs).run P w)
def Contract (P : Program) (gl : Gl) (f : Nat) (args : List V) (os : List Ob) (v : V) (os' : List Ob) : Prop := ContractM P gl (rootsN args) f args os v os'
def Said (ob fl : Bool) (P : Program) (gl : Gl) (f : Nat) (args : List V) (os : List Ob) (v : V) (os' : List Ob) : Prop :=
 bif ob then ContractM P gl os.length f args os v os' ∧ os'.take os.length = os else bif fl then ContractM P gl os.length f args os v os' else Contract P gl f args os v os'
section
variable {P : Program} {E : Env} {gl : Gl} {m nt : Nat} {w : World} {A : ASet} {η : Nat → Option Nat} {S : Type} {r : S}
def rvar (tm : Array Value) : ResultVar → Sem Value
 | .tmp t => pure (tm.getD t undef)
 | .cell a t => do loadVar t (← asAddr (tm.getD a undef))
theorem vres_sound (hE : EnvOk P E) {s : St} {tm : Array Value} (hs : SOk gl w A η (look s.fr) (look s.hp) tm) : (rs : List ResultVar) → (k : List V → Option S) → vres E s rs k = some r →
  ∃ vs cs, k vs = some r ∧ (rs.mapM (rvar tm)).run P w = .ok cs w ∧ V.RepL w A η (look s.hp) vs cs ∧ ∀ i ∈ V.idsL vs, look s.hp i ≠ none
 | [], k, hv => ⟨[], [], hv, by simp, by simp [V.RepL], by simp [V.idsL]⟩
 | .tmp t :: rs, k, hv => by
   simp only [vres] at hv
   split at hv
   ·rename_i v hx
    obtain ⟨⟨c, h1, h2⟩, h3⟩ := hs.fr t v hx
    obtain ⟨vs, cs, g1, g2, g3, g4⟩ := vres_sound hE hs rs _ hv
    refine ⟨v :: vs, c :: cs, g1, ?_, by simp only [V.RepL]; exact ⟨c, cs, rfl, h2, g3⟩, fun i hi => ?_⟩
    ·simp [List.mapM_cons, rvar, Sem.run_bind, g2, h1]
    ·simp only [V.idsL, List.mem_append] at hi; exact hi.elim (h3 i) (g4 i)
   ·cases hv
 | .cell x t :: rs, k, hv => by
   simp only [vres] at hv
   split at hv
   ·rename_i ti p ht hx
    obtain ⟨⟨c, h1, h2⟩, h3⟩ := hs.fr x p hx
    obtain ⟨l, b, q, hk, hlen, hp, hg, hd⟩ := loadAt_cells hs.heap h2 hv
    rw [hk] at hv
    split at hv
    ·rename_i v hm
     obtain ⟨c', hc, hr, hi⟩ := run_loadVar hE ht hlen hm hg
     obtain ⟨vs, cs, g1, g2, g3, g4⟩ := vres_sound hE hs rs _ hv
     refine ⟨v :: vs, c' :: cs, g1, ?_, by simp only [V.RepL]; exact ⟨c', cs, rfl, hr, g3⟩, fun i hj => ?_⟩
     ·have e : tm.getD x undef = .pointer (some ⟨b, q, none⟩) := by rw [Array.getD_eq_getD_getElem?, h1, Option.getD_some, hp]
      simp only [List.mapM_cons, rvar, Sem.run_bind, e, asAddr, Sem.run_pure, Result.andThen_ok, hc, g2]
     ·simp only [V.idsL, List.mem_append] at hj; exact hj.elim (fun h => hd i ((hi i).1 h)) (g4 i)
    ·cases hv
   ·cases hv
theorem vres1_sound (hE : EnvOk P E) {fn : Func} {s : St} {tm : Array Value} (hs : SOk gl w A η (look s.fr) (look s.hp) tm) {k : V → Option S} (hv : vres1 E fn.results.toList s k = some r) :
  ∃ v c, k v = some r ∧ (results fn tm).run P w = .ok c w ∧ V.Rep w A η (look s.hp) v c ∧ ∀ i ∈ v.ids, look s.hp i ≠ none := by
 unfold vres1 at hv
 obtain ⟨vs, cs, h1, h2, h3, h4⟩ := vres_sound (P := P) hE hs _ _ hv
 have hr : (results fn tm).run P w = .ok (if h : cs.toArray.size = 1 then cs.toArray[0] else .tuple cs.toArray) w := by
  have e : results fn tm = (do
    let vs ← fn.results.mapM (rvar tm)
    pure (if h : vs.size = 1 then vs[0] else .tuple vs)) := by
   have : rvar tm = fun x => match x with
    | ResultVar.tmp t => (pure (tm.getD t undef) : Sem Value)
    | ResultVar.cell a t => asAddr (tm.getD a undef) >>= loadVar t := by funext x; cases x <;> rfl
   rw [this]
   rfl
  rw [e, Array.mapM_eq_mapM_toList]
  simp only [Sem.run_bind, map_eq_pure_bind, h2, Result.andThen_ok, Sem.run_pure]
 have hlen := h3.length
 split at h1
 ·rename_i v
  obtain ⟨c, rfl⟩ : ∃ c, cs = [c] := List.length_eq_one_iff.1 (by rw [← hlen]; rfl)
  simp only [V.RepL] at h3
  obtain ⟨c', l, e, h5, h6⟩ := h3
  cases e
  refine ⟨v, c, h1, ?_, h5, by simpa [V.idsL] using h4⟩
  rw [hr, dif_pos (by rfl)]; rfl
 ·rename_i hne
  refine ⟨.tuple vs, .tuple cs.toArray, h1, ?_, by simp only [V.Rep]; exact ⟨_, rfl, h3⟩, by simpa [V.ids] using h4⟩
  rw [hr, dif_neg]
  intro e
  simp only [List.size_toArray] at e
  match vs, hne, (hlen.trans e) with
  | [v], hne, _ => exact hne v rfl
theorem vend_sound (hE : EnvOk P E) {fn : Func} {own : Bool} {s : St} {tm : Array Value} (hs : SOk gl w A η (look s.fr) (look s.hp) tm) {v : V} {os' : List Ob}
  (hv : vend E m fn.results.toList own (fun v os => some (v, os)) s = some (v, os')) :
  ∃ c A' η', (results fn tm).run P w = .ok c w ∧ HeapOk gl w A' η' (obs os') ∧ Link m w A η (look s.hp) w A' η' (obs os') ∧ V.Rep w A' η' (obs os') v c ∧ ∀ i ∈ v.ids, obs os' i ≠ none := by
 unfold vend at hv
 obtain ⟨u, c, h1, h2, h3, h4⟩ := vres1_sound hE hs hv
 split at h1
 ·cases h1
 ·rename_i v₁ is hpl
  split at h1
  ·cases h1
  ·rename_i L hL
   split at h1
   ·cases h1
   ·rename_i os hos
    split at h1
    ·cases h1
    ·rename_i hany
     simp only [Option.some.injEq, Prod.mk.injEq] at h1
     obtain ⟨rfl, rfl⟩ := h1
     have ho := order_spec hL
     obtain ⟨hf1, hf2, hf3⟩ := ho.first
     simp only [List.length_range] at hf1 hf2
     have hnot : ∀ i ∈ is, i ∉ L := fun i hi hc => hany (List.any_eq_true.2 ⟨i, hi, by simpa using hc⟩)
     have main : ∃ A', HStep gl m w A η (look s.hp) w A' η (ups (froze (look s.hp) is) (look s.hp)) ∧ V.Rep w A' η (ups (froze (look s.hp) is) (look s.hp)) v₁ c := by
      cases own with
      | true =>
        simp only [if_true] at hpl
        obtain ⟨g1, g2, g3⟩ := V.plainP_rep hs.heap u v₁ is hpl c h3
        obtain ⟨A', st, k1, k2, k3⟩ := HStep.froze (m := m) hs.heap is fun i hi => (g3 i hi).2
        refine ⟨A', st, ?_⟩
        have := g1 A' (fun b hb => (k1 b).2 (.inl hb)) fun i hi b hb => (k1 b).2 (.inr ⟨i, hi, hb⟩)
        refine V.Rep.mono (I := fun i => look s.hp i ≠ none) ⟨fun b hb => ⟨hb, rfl⟩, fun i hi => rfl, fun i x hi hx => st.still.own i x hi hx⟩ v₁ c (fun i hi => h4 i (g2 i hi)) this
      | false =>
        simp only [Bool.false_eq_true, if_false] at hpl
        obtain ⟨g1, g2, g3⟩ := V.plain_rep hs.heap u v₁ is hpl c h3
        obtain ⟨A', st, k1, k2, k3⟩ := HStep.froze (m := m) hs.heap is fun i hi => (g3 i hi).2
        refine ⟨A', st, ?_⟩
        have := g1 A' (fun b hb => (k1 b).2 (.inl hb)) fun i hi b hb => (k1 b).2 (.inr ⟨i, hi, hb⟩)
        refine V.Rep.mono (I := fun i => look s.hp i ≠ none) ⟨fun b hb => ⟨hb, rfl⟩, fun i hi => rfl, fun i x hi hx => st.still.own i x hi hx⟩ v₁ c (fun i hi => h4 i (g2 i hi)) this
     obtain ⟨A', st, hrep⟩ := main
     have hsame : ∀ i ∈ L, ups (froze (look s.hp) is) (look s.hp) i = look s.hp i := fun i hi => froze_ne fun hc => hnot i hc hi
     have ehP : hP (look s.hp) L = hP (ups (froze (look s.hp) is) (look s.hp)) L := by
      funext j
      unfold hP
      cases hj : L[j]? with
      | none => rfl
      | some i => dsimp only; rw [hsame i (List.mem_of_getElem? hj)]
     have hcl : ∀ i ∈ L, ∃ o, ups (froze (look s.hp) is) (look s.hp) i = some o ∧ ∀ j ∈ o.ids, j ∈ L := fun i hi => by
      rw [hsame i hi]; exact ho.closed i hi
     rw [obs_hP hos, ehP]
     refine ⟨c, A', ηP η L, h2, st.ok.pick ho.nodup hcl, st.link.trans' (.pick fun j hj => by rw [hf2 j hj]; simp [hj]), V.Rep.ren pick_moved v₁ c ho.sub hrep, fun i hi => ?_⟩
     rw [V.ren_ids] at hi
     obtain ⟨x, hx, rfl⟩ := List.mem_map.1 hi
     have hxL := ho.sub x hx
     rw [hP_at hxL]
     obtain ⟨o, g1, _⟩ := hcl x hxL
     rw [g1]; simp
def fnB (fn : Func) (c : Code) (n : Nat) : Bool := fn.name != "runtime.NumGoroutine" && codeB fn.ntmps c && decide (n ≤ fn.ntmps)
theorem zip_get {α : Type} {l : List α} {t : Nat} {x : α} (h : look (zipFrom 0 l) t = some x) : l[t]? = some x := by
 rw [look_zip] at h; simpa using h
theorem unwind_sound (hE : EnvOk P E) {w₀ : World} {A₀ : ASet} {η₀ : Nat → Option Nat} {h₀ : Nat → Option Ob} {fr : Nat → Option V} {h : Nat → Option Ob} {tm : Array Value} (frm : Frame) (cs : List Frame) (hmode : frm.mode = .returning) :
  (ds : List Deferred) → (w : World) → SOk gl w A η fr h tm → Link m w₀ A₀ η₀ h₀ w A η h → DOk w₀.heap.size w A η h ds →
    ∃ w', Steps P (lone { frm with defers := ds } cs w) (lone { frm with defers := [] } cs w') ∧ SOk gl w' A η fr h tm ∧ Link m w₀ A₀ η₀ h₀ w' A η h
 | [], w, hs, hl, _ => ⟨w, .refl _ _, hs, hl⟩
 | d :: ds, w, hs, hl, hd => by
   obtain ⟨⟨D, h1, h2, h3, h4, h5, h6⟩, h7⟩ := hd
   have htie : Tied w D (.deferred none) := .of h3 (by intro rec e; cases e)
   obtain ⟨get, ok, st⟩ := HStep.other hs.heap (x := .deferred none) htie (by intro c T fz e; cases e) h4 h5
   have hlt : D < w.heap.size := (Array.getElem?_eq_some_iff.1 h3).1
   have take : (Instr.takeDeferred D).run P w = .ok [] { w with heap := w.heap.setIfInBounds D (.deferred none) } := by
    simp [Instr.takeDeferred, getObj, setObj, Sem.run, h3]
   have hs' : SOk gl { w with heap := w.heap.setIfInBounds D (.deferred none) } A η fr h tm := ⟨ok, fun t v hv => by
    obtain ⟨⟨c, g1, g2⟩, g3⟩ := hs.fr t v hv
    exact ⟨⟨c, g1, V.Rep.mono st v c g3 g2⟩, g3⟩⟩
   have hl' : Link m w₀ A₀ η₀ h₀ { w with heap := w.heap.setIfInBounds D (.deferred none) } A η h := {
    trans := {
     size := by simpa using hl.trans.size
     kept := fun b hb hn => by rw [get b (by omega), hl.trans.kept b hb hn]
     immA := hl.trans.immA
     newA := hl.trans.newA
     newM := hl.trans.newM
     roots := hl.trans.roots
     rest := hl.trans.rest
     frz := fun b c T fz hb => by
      by_cases e : b = D
      ·subst e; simp [hlt] at hb
      ·rw [get b e] at hb; exact hl.trans.frz b c T fz hb
     tie := fun b rec hb => by
      obtain ⟨rec', g1, g2⟩ := hl.trans.tie b rec hb
      have e : b ≠ D := fun e => by subst e; rw [h3] at g1; cases g1
      exact ⟨rec', by rw [get b e]; exact g1, g2⟩ }
    imm := fun b hb => by
     have e : b ≠ D := fun e => h5 (e ▸ hl.trans.immA b hb)
     rw [get b e, hl.imm b hb]
    own := fun i v hi hdi hv => st.own i v (hl.dom i hi hdi) (hl.own i v hi hdi hv)
    dom := hl.dom }
   have hd' : DOk w₀.heap.size { w with heap := w.heap.setIfInBounds D (.deferred none) } A η h ds := by
    have : ∀ l : List Deferred, (∀ d' ∈ l, d'.target ≠ .collected D) → DOk w₀.heap.size w A η h l → DOk w₀.heap.size { w with heap := w.heap.setIfInBounds D (.deferred none) } A η h l := by
     intro l
     induction l with
     | nil => intro _ _; trivial
     | cons e l ih =>
       rintro hne ⟨⟨D', g1, g2, g3, g4, g5, g6⟩, g7⟩
       refine ⟨⟨D', g1, g2, ?_, g4, g5, g6⟩, ih (fun d' hd' => hne d' (by simp [hd'])) g7⟩
       rw [get D' (fun e' => hne e (by simp) (by rw [g1, e']))]
       exact g3
    exact this ds h6 h7
   obtain ⟨w', g1, g2, g3⟩ := unwind_sound hE frm cs hmode ds _ hs' hl' hd'
   have hstep := step_collected (P := P) (fr := { frm with defers := d :: ds }) (cs := cs) (w := w) (d := d) (r := D) (ds := ds) (calls := []) (by simp [hmode]) rfl (by rw [h1]) take
   exact ⟨w', .head hstep (by simpa using g1), g2, g3⟩
theorem contractM_of (m : Nat) (hP : P.follows .mixedOrders = true) (hE : Ready P E) {f : Nat} {fn : Func} {c : Code} (hf : P.funcs[f]? = some fn) (hb : fn.body = some c) {args : List V} {os os' : List Ob} {v : V} (hB : fnB fn c args.length = true) (hlt : f < 1000000000)
  {cuts : Cuts} (hrf : RfOk E.gl.rf fn.ntmps cuts c) {F n : Nat} {own : Bool} (hv : vrun E cuts (m) F (vend E (m) fn.results.toList own fun v os => some (v, os)) n [.code c] (start args os) = some (v, os')) (hm : m ≤ os.length) :
  ContractM P E.gl m f args os v os' := by
 intro w A η hok cs hrep hdom o a Q K hK
 unfold fnB at hB
 simp only [Bool.and_eq_true, bne_iff_ne, ne_eq, decide_eq_true_eq] at hB
 obtain ⟨⟨hname, hcode⟩, hlen⟩ := hB
 have hcall : (callFunc f cs).run P w = .ok (.enter f cs) w := by
  have hn : (fn.name == "runtime.NumGoroutine") = false := by simpa using hname
  simp only [callFunc, Sem.run_bind, run_program, Result.andThen_ok, hf]
  simp [hn, hb]
 unfold callV
 rw [if_pos hlt, hcall, Oper.uponIn_enter]
 have hcs : cs.size = args.length := by have := hrep.length; simpa using this.symm
 refine ⟨fun h => by simp [Fence.wide] at h, callsIn_wide.2 fun frs => ?_⟩
 let b : Frame := { (default : Frame) with fn := f, kind := .normal, roundOf := none }
 let a₀ : Act := { tmps := cs ++ Array.replicate (fn.ntmps - cs.size) undef, defers := [] }
 have henter : Frame.enter P f cs .normal = b.atR a₀ [.code c] := by simp [Frame.enter, Frame.atR, hf, hb, b, a₀]
 have hs : SOk E.gl w A η (look (start args os).fr) (look (start args os).hp) a₀.tmps := by
  refine ⟨by simp only [start]; rw [look_obs]; exact hok, fun t u hu => ?_⟩
  simp only [start] at hu ⊢
  have hu := zip_get hu
  rw [look_obs]
  obtain ⟨c', h1, h2⟩ := hrep.get hu
  refine ⟨⟨c', ?_, h2⟩, fun i hi => hdom i (idsL_get hu i hi)⟩
  have ht : t < cs.size := by
   have := (List.getElem?_eq_some_iff.1 h1).1; simpa using this
  simp only [a₀]
  rw [Array.getElem?_append_left ht]
  rw [← Array.getElem?_toList]
  exact h1
 have hcome : Come E.gl (m) fn.ntmps w A η (obs os) (start args os) a₀ w := by
  refine ⟨⟨A, η, hs, ?_, trivial⟩, by simp only [a₀]; simp; omega, hm⟩
  simp only [start]
  rw [look_obs]
  exact (HStep.refl hok).link
 obtain ⟨out, a', w', todo', ⟨hout, s, hk, hc⟩, hat, hsteps⟩ := vrun_sound (b := b) (cs := frs) (rd := false) (ρ := none)
  (R := fun out a' w' => out < 2 ∧ ∃ s, vend E (m) fn.results.toList own (fun v os => some (v, os)) s = some (v, os') ∧ Come E.gl (m) fn.ntmps w A η (obs os) s a' w') hP hE rfl (.inl ⟨rfl, rfl⟩) rfl
  (fun _ s hk a' w' hc out ho => ⟨ho, s, hk, hc⟩) (fun h => by cases h) n [.code c] (start args os) hv trivial rfl (by simp only [List.mem_cons, List.not_mem_nil, or_false]; rintro x rfl; exact ⟨hcode, hrf⟩) a₀ w hcome
 have hret : Steps P (lone (b.atR a' todo') frs w') (lone { b.atR a' todo' with mode := .returning } frs w') := by
  rcases hat with ⟨_, rfl⟩ | ⟨_, k, rfl⟩ | ⟨id, k, h2, _⟩
  ·exact .one (stepR_end rfl)
  ·exact .one (stepR_ret rfl)
  ·omega
 obtain ⟨A₁, η₁, hs₁, hl₁, hd₁⟩ := hc.ok
 obtain ⟨w'', hun, hs₂, hl₂⟩ := unwind_sound hE.env { b.atR a' todo' with mode := .returning } frs rfl a'.defers w' hs₁ hl₁ hd₁
 obtain ⟨c', A', η', g1, g2, g3, g4, g5⟩ := vend_sound hE.env hs₂ hk
 exact ⟨.returned c', w'', { { b.atR a' todo' with mode := .returning } with defers := [] }, hK c' w'' A' η' g2 (hl₂.trans' g3) g4 g5, by rw [henter]; exact Steps.trans hsteps (Steps.trans hret hun), rfl, rfl, rfl, rfl, fn, hf, g1⟩
theorem contract_of (hP : P.follows .mixedOrders = true) (hE : Ready P E) {f : Nat} {fn : Func} {c : Code} (hf : P.funcs[f]? = some fn) (hb : fn.body = some c) {args : List V} {os os' : List Ob} {v : V} (hB : fnB fn c args.length = true) (hlt : f < 1000000000)
 {cuts : Cuts} (hrf : RfOk E.gl.rf fn.ntmps cuts c) {F n : Nat} {own : Bool} (hv : vrun E cuts (rootsN args) F (vend E (rootsN args) fn.results.toList own fun v os => some (v, os)) n [.code c] (start args os) = some (v, os')) (hm : rootsN args ≤ os.length) :
 Contract P E.gl f args os v os' := contractM_of (rootsN args) hP hE hf hb hB hlt hrf hv hm
theorem zip_slots {w : World} {A : ASet} {η : Nat → Option Nat} {h : Nat → Option Ob} : (ps : List Tmp) → (vs : List V) → (cs : List Value) → V.RepL w A η h vs cs → ∀ (tm : Array Value) (fr : List (Nat × V)), (∀ p ∈ ps, p < tm.size) → ps.length = vs.length →
  (∀ p ∈ fr, ∃ c, tm[p.1]? = some c ∧ V.Rep w A η h p.2 c) → ∀ t v, look ((ps.zip vs).reverse ++ fr) t = some v →
    ∃ c, ((ps.zip cs).foldl (fun t p => t.setIfInBounds p.1 p.2) tm)[t]? = some c ∧ V.Rep w A η h v c
 | [], vs, cs, hr, tm, fr, hlt, hl, hfr, t, v, hv => by
   simp only [List.zip_nil_left, List.reverse_nil, List.nil_append, List.foldl_nil] at hv ⊢
   exact hfr _ (look_mem hv)
 | p :: ps, [], cs, hr, tm, fr, hlt, hl, hfr, t, v, hv => by simp at hl
 | p :: ps, u :: vs, cs, hr, tm, fr, hlt, hl, hfr, t, v, hv => by
   simp only [V.RepL] at hr
   obtain ⟨c, cs, rfl, h1, h2⟩ := hr
   simp only [List.zip_cons_cons, List.reverse_cons, List.append_assoc, List.singleton_append, List.foldl_cons] at hv ⊢
   have key : ∀ (tm : Array Value) (fr : Nat → Option V), (∀ p ∈ ps, p < tm.size) → (∀ t v, fr t = some v → ∃ c, tm[t]? = some c ∧ V.Rep w A η h v c) → ∀ t v, (match look (ps.zip vs).reverse t with
     | some x => some x
     | none => fr t) = some v → ∃ c, ((ps.zip cs).foldl (fun t p => t.setIfInBounds p.1 p.2) tm)[t]? = some c ∧ V.Rep w A η h v c := by
    have hl' : ps.length = vs.length := by simpa using hl
    clear hv hfr hlt hl
    induction ps generalizing vs cs with
    | nil => intro tm fr _ hfr t v hv; simp only [List.zip_nil_left, List.reverse_nil, look, List.foldl_nil] at hv ⊢; exact hfr t v hv
    | cons p ps ih =>
      intro tm fr hlt hfr t v hv
      match vs, cs, h2, hl' with
      | u :: vs, cs, h2, hl' =>
        simp only [V.RepL] at h2
        obtain ⟨c, cs, rfl, h3, h4⟩ := h2
        simp only [List.zip_cons_cons, List.reverse_cons, List.foldl_cons] at hv ⊢
        refine ih vs cs h4 (by simpa using hl') (tm.setIfInBounds p c) (fun t => if p = t then some u else fr t) (fun q hq => by simpa using hlt q (by simp [hq])) (fun t' v' hv' => ?_) t v ?_
        ·split at hv'
         ·rename_i e; subst e; cases hv'
          exact ⟨c, by simp [hlt p (by simp)], h3⟩
         ·rename_i e
          obtain ⟨c', g1, g2⟩ := hfr t' v' hv'
          exact ⟨c', by rw [Array.getElem?_setIfInBounds_ne e]; exact g1, g2⟩
        ·rw [look_append] at hv
         cases hq : look (ps.zip vs).reverse t with
         | some x => rw [hq] at hv; exact hv
         | none =>
           rw [hq] at hv
           simp only [look] at hv
           dsimp only
           split at hv <;> simp_all
   refine key (tm.setIfInBounds p c) (look ((p, u) :: fr)) (fun q hq => by simpa using hlt q (by simp [hq])) (fun t' v' hv' => ?_) t v ?_
   ·simp only [look] at hv'
    split at hv'
    ·rename_i e; subst e; cases hv'
     exact ⟨c, by simp [hlt p (by simp)], h1⟩
    ·rename_i e
     obtain ⟨c', g1, g2⟩ := hfr _ (look_mem hv')
     exact ⟨c', by rw [Array.getElem?_setIfInBounds_ne e]; exact g1, g2⟩
   ·rw [look_append] at hv
    cases hq : look (ps.zip vs).reverse t with
    | some x => rw [hq] at hv; exact hv
    | none => rw [hq] at hv; exact hv
theorem contract_round {m : Nat} (hm0 : 0 < m) (hP : P.follows .mixedOrders = true) (hE : Ready P E) {y : Nat} {q : RF} (hq : E.gl.rf y = some q) {vs : List V} {fr₀ : List (Nat × V)} {rest os' : List Ob} {v : V} (hB : roundB q vs.length = true)
  {cuts : Cuts} (hrf : RfOk E.gl.rf q.nt cuts q.assign ∧ RfOk E.gl.rf q.nt cuts q.body) {F n : Nat}
  (hv : vrun E cuts (m) F (vendR (m) fun v os => some (v, os)) n (roundTodo q) (startR q vs (.loop y fr₀ 0 :: rest)) = some (v, os')) (hm : m ≤ rest.length + 1) :
  ContractM P E.gl m (1000000000 + y) (.yld 0 :: vs) (.loop y fr₀ 0 :: rest) v os' := by
 intro w A η hok cs hrep hdom o a Q K hK
 unfold roundB at hB
 simp only [Bool.and_eq_true, decide_eq_true_eq, Array.all_eq_true'] at hB
 obtain ⟨⟨⟨hc1, hc2⟩, hps⟩, hpl⟩ := hB
 simp only [V.RepL] at hrep
 obtain ⟨y0, cs', hcs, hy0, hrep'⟩ := hrep
 simp only [V.Rep] at hy0
 obtain ⟨l, hl, rfl⟩ := hy0
 have h00 : obs (.loop y fr₀ 0 :: rest) 0 = some (.loop y fr₀ 0) := rfl
 obtain ⟨b', rec, q', k1, k2, k3, ⟨k4, k4'⟩, k5, k6, k7, k8⟩ := hok.ob 0 _ h00
 rw [hl] at k1; cases k1
 rw [hq] at k3; cases k3
 unfold callV
 rw [if_neg (by omega), hcs]
 dsimp only
 have hlen : cs'.length = vs.length := hrep'.length.symm
 have hyield := run_yield (P := P) (w := w) (l := l) (r := rec) (args := cs'.toArray) k2 (by rw [k4]; simp [hlen, hps])
 rw [hyield, Oper.uponIn_round]
 refine ⟨fun h => by simp [Fence.wide] at h, trivial, fun c ccs _ => ?_⟩
 let b : Frame := { (default : Frame) with fn := rec.fn, kind := .normal, roundOf := some l }
 let a₀ : Act := { tmps := (rec.params.zip cs'.toArray).foldl (fun tmps (t, a) => tmps.setIfInBounds t a) rec.tmps, defers := [] }
 have hfrm : Frame.round l rec.fn a₀.tmps rec.assign rec.body .normal = b.atR a₀ (bare (roundTodo q)) := by
  simp [Frame.round, Frame.atR, b, roundTodo, bare, k5, k6]
  rfl
 have htm : a₀.tmps = ((q.params.toList.zip cs').foldl (fun t p => t.setIfInBounds p.1 p.2) rec.tmps) := by
  simp only [a₀]
  rw [← Array.foldl_toList, k4]
  simp
 have hsize : ∀ (l : List (Tmp × Value)) (t : Array Value), (l.foldl (fun t p => t.setIfInBounds p.1 p.2) t).size = t.size := by
  intro l
  induction l with
  | nil => intro t; rfl
  | cons p l ih => intro t; simp only [List.foldl_cons]; rw [ih]; simp
 have hs : SOk E.gl w A η (look (startR q vs (.loop y fr₀ 0 :: rest)).fr) (look (startR q vs (.loop y fr₀ 0 :: rest)).hp) a₀.tmps := by
  refine ⟨by simp only [startR]; rw [look_obs]; exact hok, fun t u hu => ?_⟩
  simp only [startR] at hu ⊢
  rw [look_obs, htm]
  refine ⟨zip_slots q.params.toList vs cs' hrep' rec.tmps fr₀ (fun p hp => by rw [k4']; simpa using hpl p (by simpa using hp)) (by simpa using hps) k8 t u hu, fun i hi => ?_⟩
  have hmem := look_mem hu
  rcases List.mem_append.1 hmem with hmem | hmem
  ·have := (List.of_mem_zip (List.mem_reverse.1 hmem)).2
   exact hdom i (by simp only [V.idsL, List.mem_append]; exact .inr (idsL_mem this i hi))
  ·exact hok.dom 0 _ h00 i (idsL_mem (List.mem_map.2 ⟨_, hmem, rfl⟩) i hi)
 have hcome : Come E.gl (m) q.nt w A η (obs (.loop y fr₀ 0 :: rest)) (startR q vs (.loop y fr₀ 0 :: rest)) a₀ w := by
  refine ⟨⟨A, η, hs, ?_, trivial⟩, by rw [htm, hsize, k4'], by simpa [startR] using hm⟩
  simp only [startR]
  rw [look_obs]
  exact (HStep.refl hok).link
 obtain ⟨out, a', w', todo', ⟨s, hk, hc⟩, hat, hsteps⟩ := vrun_sound (b := b) (cs := c :: ccs) (rd := true) (ρ := some l)
  (R := fun out a' w' => ∃ s, vendR (m) (fun v os => some (v, os)) { s with nx := out } = some (v, os') ∧ Come E.gl (m) q.nt w A η (obs (.loop y fr₀ 0 :: rest)) s a' w') hP hE rfl (.inr ⟨rfl, l, rec, rfl, hm0, hl, k2⟩) rfl
  (fun h => by cases h) (fun _ s out hk a' w' hc => ⟨s, hk, hc⟩) n (roundTodo q) _ hv rfl rfl (by
    simp only [roundTodo, List.mem_cons, List.not_mem_nil, or_false]
    rintro x (rfl | rfl | rfl | rfl)
    ·exact ⟨hc1, hrf.1⟩
    ·rfl
    ·exact ⟨hc2, hrf.2⟩
    ·trivial) a₀ w hcome
 obtain ⟨A₁, η₁, hs₁, hl₁, hd₁⟩ := hc.ok
 have eη : η₁ 0 = some l := by rw [hl₁.trans.roots 0 hm0, hl]
 unfold vendR at hk
 dsimp only at hk
 split at hk
 ·rename_i y₁ fr₁ st₁ h0
  split at hk
  ·rename_i L hL
   split at hk
   ·rename_i os hos
    simp only [Option.some.injEq, Prod.mk.injEq] at hk
    obtain ⟨rfl, rfl⟩ := hk
    obtain ⟨b₁, rec₁, q₁, j1, j2, j3, ⟨j4, j4'⟩, j5, j6, j7, j8⟩ := hs₁.heap.ob 0 _ h0
    rw [eη] at j1; cases j1
    have fin : ∀ (st' : Nat) (rec' : Loop), rec'.tmps = rec₁.tmps → rec'.params = rec₁.params → rec'.assign = rec₁.assign → rec'.body = rec₁.body → LState st' rec' → (bif decide (out = 0) then 0 else out + 2) = st' →
      ∃ A' η', HeapOk E.gl { w' with heap := w'.heap.setIfInBounds l (.loop rec') } A' η' (obs os) ∧ Link (m) w A η (obs (.loop y fr₀ 0 :: rest)) { w' with heap := w'.heap.setIfInBounds l (.loop rec') } A' η' (obs os) := by
     intro st' rec' e1 e2 e3 e4 hst' est
     rw [est] at hL hos
     have st := HStep.turn (gl := E.gl) (m := m) (o' := .loop y₁ fr₁ st') (x := .loop rec') hs₁.heap (fun rec'' e => ⟨rec', rfl, by rw [j2] at e; cases e; exact e1⟩) (by intro c T fz e; cases e) h0 (by unfold Mut; rw [h0]; trivial) eη
      (fun u hu => by unfold OwnRep at hu ⊢; rw [ovr_same]; rw [h0] at hu; exact hu) (fun j hj => hs₁.heap.dom 0 _ h0 j hj) (fun st => ⟨l, rec', q₁, eη, by simp [(Array.getElem?_eq_some_iff.1 j2).1], j3, ⟨by rw [e2, j4], by rw [e1, j4']⟩, by rw [e3, j5], by rw [e4, j6], hst', fun p hp => by
        obtain ⟨c, g1, g2⟩ := j8 p hp
        exact ⟨c, by rw [e1]; exact g1, V.Rep.mono st p.2 c (fun i hi => hs₁.heap.dom 0 _ h0 i (idsL_mem (List.mem_map.2 ⟨p, hp, rfl⟩) i hi)) g2⟩⟩)
     rw [← look_ovr] at st
     have ho := order_spec hL
     obtain ⟨hf1, hf2, hf3⟩ := ho.first
     simp only [List.length_range] at hf1 hf2
     rw [obs_hP hos]
     exact ⟨A₁, ηP η₁ L, st.ok.pick ho.nodup ho.closed, hl₁.trans' (st.link.trans' (.pick fun j hj => by rw [hf2 j hj]; simp [hj]))⟩
    have enter : ∀ (v : Value) (w'' : World), step P (lone (b.atR a' todo') (c :: ccs) w') = .next (lone (c.finish v) ccs w'') → Steps P (lone (Frame.round l rec.fn a₀.tmps rec.assign rec.body .normal) (c :: ccs) w) (lone (c.finish v) ccs w'') := fun v w'' h => by
     rw [hfrm]; exact Steps.trans hsteps (.one h)
    have er : ∀ jump, (Instr.endRound l jump).run P w' = .ok (.bool jump.isNone) { w' with heap := w'.heap.setIfInBounds l (.loop { rec₁ with state := if jump.isNone then .ready else .done, pending := jump }) } := fun jump => by
     simp [Instr.endRound, Instr.getLoop, getObj, setObj, Sem.run, j2]
    rcases hat with ⟨rfl, rfl⟩ | ⟨rfl, k, rfl⟩ | ⟨id, k, rfl, rfl, hx⟩
    ·obtain ⟨A', η', f1, f2⟩ := fin 0 { rec₁ with state := .ready, pending := none } rfl rfl rfl rfl ⟨rfl, rfl⟩ rfl
     exact ⟨.returned (.bool true), _, hK (.bool true) _ A' η' f1 f2 (by simp [V.Rep]) (by simp [V.ids]), stepsIn_wide.2 (enter _ _ (stepR_round_end rfl rfl (er none)))⟩
    ·obtain ⟨A', η', f1, f2⟩ := fin 3 { rec₁ with state := .done, pending := some .ret } rfl rfl rfl rfl ⟨rfl, rfl⟩ rfl
     exact ⟨.returned (.bool false), _, hK (.bool false) _ A' η' f1 f2 (by simp [V.Rep]) (by simp [V.ids]), stepsIn_wide.2 (enter _ _ (stepR_round_ret rfl rfl (er (some .ret))))⟩
    ·obtain ⟨A', η', f1, f2⟩ := fin (id + 4) { rec₁ with state := .done, pending := some (.exit id) } rfl rfl rfl rfl ⟨rfl, rfl⟩ rfl
     exact ⟨.returned (.bool false), _, hK (.bool false) _ A' η' f1 f2 (by simp [V.Rep]) (by simp [V.ids]), stepsIn_wide.2 (enter _ _ (stepR_round_exit rfl rfl hx (er (some (.exit id)))))⟩
   ·cases hk
  ·cases hk
 ·cases hk
end
end Vm
namespace Vm
open Go
def back (L : List Nat) (n base : Nat) (j : Nat) : Nat := if j < n then L.getD j 0 else base + j
def hB (h : Nat → Option Ob) (L : List Nat) (n base : Nat) (os' : List Ob) : Nat → Option Ob := fun i =>
 if i ∈ L.take n then (obs os' (posIn L i)).map (Ob.ren (back L n base))
 else if base + n ≤ i ∧ i < base + os'.length then (obs os' (i - base)).map (Ob.ren (back L n base))
 else if i ∈ L then some .dead else h i
def ηB (η η' : Nat → Option Nat) (n base len : Nat) : Nat → Option Nat := fun i => if base + n ≤ i ∧ i < base + len then η' (i - base) else η i
section
variable {gl : Gl} {m : Nat} {w w' : World} {A A' : ASet} {η η' : Nat → Option Nat} {h : Nat → Option Ob} {L : List Nat} {n base : Nat} {os' : List Ob}
structure Back (gl : Gl) (m : Nat) (w w' : World) (A A' : ASet) (η η' : Nat → Option Nat) (h : Nat → Option Ob) (L : List Nat) (n base : Nat) (os' : List Ob) : Prop where
 ok : HeapOk gl w A η h
 nodup : L.Nodup
 closed : ∀ i ∈ L, ∃ o, h i = some o ∧ ∀ j ∈ o.ids, j ∈ L
 le : n ≤ L.length
 le' : n ≤ os'.length
 free : ∀ j, n ≤ j → j < os'.length → h (base + j) = none
 mb : m ≤ base
 okc : HeapOk gl w' A' η' (obs os')
 lk : Link n w A (ηP η L) (hP h L) w' A' η' (obs os')
 calm : ∀ j o, obs os' j = some o → o.calm = true
variable (B : Back gl m w w' A A' η η' h L n base os')
include B
theorem Back.take_get {j : Nat} (hj : j < n) : ∃ i, L[j]? = some i ∧ back L n base j = i ∧ i ∈ L.take n ∧ i ∈ L ∧ posIn L i = j := by
 have hl : j < L.length := Nat.lt_of_lt_of_le hj B.le
 have e : L[j]? = some L[j] := by simp [hl]
 have hm := List.mem_of_getElem? e
 refine ⟨L[j], e, by simp [back, hj, hl], ?_, hm, posIn_of B.nodup e⟩
 refine List.mem_iff_getElem?.2 ⟨j, ?_⟩
 rw [List.getElem?_take_of_lt hj]; exact e
theorem Back.take_pos {i : Nat} (hi : i ∈ L.take n) : posIn L i < n ∧ L[posIn L i]? = some i ∧ i ∈ L ∧ back L n base (posIn L i) = i := by
 obtain ⟨j, hj⟩ := List.mem_iff_getElem?.1 hi
 have hlt : j < n := by
  have := (List.getElem?_eq_some_iff.1 hj).1
  simp at this; omega
 rw [List.getElem?_take_of_lt hlt] at hj
 obtain ⟨i', h1, h2, h3, h4, h5⟩ := B.take_get hlt
 rw [hj] at h1; cases h1
 rw [h5]
 exact ⟨hlt, hj, h4, h2⟩
theorem Back.in_dom {i : Nat} (hi : i ∈ L) : h i ≠ none := by obtain ⟨o, h1, _⟩ := B.closed i hi; rw [h1]; simp
theorem Back.not_new {i : Nat} (hi : h i ≠ none) : ¬ (base + n ≤ i ∧ i < base + os'.length) := fun ⟨h1, h2⟩ => by
 have := B.free (i - base) (by omega) (by omega)
 rw [show base + (i - base) = i by omega] at this
 exact hi this
theorem Back.at_img {j : Nat} (hj : j < os'.length) : hB h L n base os' (back L n base j) = (obs os' j).map (Ob.ren (back L n base)) ∧ ηB η η' n base os'.length (back L n base j) = η' j := by
 by_cases hn : j < n
 ·obtain ⟨i, h1, h2, h3, h4, h5⟩ := B.take_get hn
  rw [h2]
  refine ⟨by unfold hB; rw [if_pos h3, h5], ?_⟩
  unfold ηB
  rw [if_neg (B.not_new (B.in_dom h4)), B.lk.trans.roots j hn]
  unfold ηP; rw [h1]
 ·have e : back L n base j = base + j := by unfold back; rw [if_neg hn]
  rw [e]
  have hnone := B.free j (by omega) hj
  have hnl : base + j ∉ L := fun hc => B.in_dom hc hnone
  refine ⟨?_, ?_⟩
  ·unfold hB
   rw [if_neg (fun hc => hnl (List.mem_of_mem_take hc)), if_pos (by omega), show base + j - base = j by omega]
  ·unfold ηB
   rw [if_pos (by omega), show base + j - base = j by omega]
theorem Back.cases (i : Nat) : (∃ j, j < os'.length ∧ back L n base j = i) ∨ (i ∈ L ∧ hB h L n base os' i = some .dead ∧ ηB η η' n base os'.length i = η i) ∨
  (i ∉ L ∧ hB h L n base os' i = h i ∧ ηB η η' n base os'.length i = η i) := by
 by_cases h1 : i ∈ L.take n
 ·obtain ⟨h2, h3, h4, h5⟩ := B.take_pos h1
  exact .inl ⟨posIn L i, Nat.lt_of_lt_of_le h2 B.le', h5⟩
 ·by_cases h2 : base + n ≤ i ∧ i < base + os'.length
  ·exact .inl ⟨i - base, by omega, by unfold back; rw [if_neg (by omega)]; omega⟩
  ·right
   by_cases h3 : i ∈ L
   ·exact .inl ⟨h3, by unfold hB; rw [if_neg h1, if_neg h2, if_pos h3], by unfold ηB; rw [if_neg h2]⟩
   ·exact .inr ⟨h3, by unfold hB; rw [if_neg h1, if_neg h2, if_neg h3], by unfold ηB; rw [if_neg h2]⟩
theorem Back.img_mut {i j : Nat} (hj : j < os'.length) (e : back L n base j = i) (hm : Mut (hB h L n base os') i) : Mut (obs os') j :=
 (Mut_ren (by rw [← e]; exact (B.at_img hj).1)).1 hm
theorem Back.mut_same {i : Nat} (e : hB h L n base os' i = h i) (hm : Mut (hB h L n base os') i) : Mut h i := by have _ := B; unfold Mut at *; rwa [e] at hm
theorem Back.not_dead {i : Nat} (e : hB h L n base os' i = some .dead) : ¬ Mut (hB h L n base os') i := by have _ := B; unfold Mut; rw [e]; exact id
theorem Back.others {i b : Nat} (hi : i ∉ L) (hm : Mut h i) (hb : η i = some b) : b < w.heap.size ∧ ¬ Owned (ηP η L) (hP h L) b := by
 refine ⟨B.ok.block hm hb, fun ⟨j, hj, hbj⟩ => ?_⟩
 obtain ⟨i', h1, h2, h3⟩ := hP_mut (η := η) hj
 rw [h3] at hbj
 have := B.ok.inj i i' b hm h2 hb hbj
 exact hi (this ▸ List.mem_of_getElem? h1)
theorem Back.kept {i : Nat} {o : Ob} (hi : i ∉ L) (ho : h i = some o) {b : Nat} (hb : η i = some b) (hnd : o ≠ .dead) : w'.heap[b]? = w.heap[b]? := by
 by_cases hm : Mut h i
 ·obtain ⟨h1, h2⟩ := B.others hi hm hb
  exact B.lk.trans.kept b h1 h2
 ·unfold Mut at hm
  rw [ho] at hm
  cases o with
  | var l => exact (hm trivial).elim
  | map kr ka vr va es => exact (hm trivial).elim
  | lmap _ kr ka vr va es => exact (hm trivial).elim
  | emap _ _ _ _ _ _ _ _ => exact (hm trivial).elim
  | iter s pos => exact (hm trivial).elim
  | miter _ _ _ _ _ _ _ => exact (hm trivial).elim
  | loop _ _ _ => exact (hm trivial).elim
  | dead => exact (hnd rfl).elim
  | arr r xs fz =>
    cases fz with
    | false => exact (hm trivial).elim
    | true =>
      rcases B.ok.ob i _ ho with ⟨h1, _⟩ | ⟨b₁, c, T, h1, _, _, h4, _⟩
      ·rw [h1] at hb; cases hb
      ·rw [h1] at hb; cases hb; exact B.lk.imm _ (h4 rfl)
theorem Back.not_lock {j c : Nat} (hj : j < os'.length) (hl : Lock (hB h L n base os') (back L n base j) c) : False := by
 obtain ⟨kr, ka, vr, va, es, e⟩ := hl
 rw [(B.at_img hj).1, Option.map_eq_some_iff] at e
 obtain ⟨o, h1, h2⟩ := e
 have := B.calm j o h1
 cases o with
 | lmap _ _ _ _ _ _ => cases this
 | _ => simp [Ob.ren] at h2
theorem Back.lkKept : LkKept w w' η h (hB h L n base os') := fun j c hj hc hl => by
 rcases B.cases j with ⟨k, hk, e⟩ | ⟨h1, h2, h3⟩ | ⟨h1, h2, h3⟩
 ·exact (B.not_lock hk (e ▸ hl)).elim
 ·obtain ⟨kr, ka, vr, va, es, e⟩ := hl
  rw [h2] at e; cases e
 ·obtain ⟨kr, ka, vr, va, es, e⟩ := hl
  rw [h2] at e
  exact ⟨⟨kr, ka, vr, va, es, e⟩, fun b hb => B.kept h1 e hb (by simp)⟩
theorem Back.moved : Moved w' w' A' A' η' (ηB η η' n base os'.length) (obs os') (hB h L n base os') (back L n base) (· < os'.length) where
 imm := fun b hb => ⟨hb, rfl⟩
 at_ := fun j hj => (B.at_img hj).2
 own := fun j v hj hv => hv.arr (B.at_img hj).2 (B.at_img hj).1 fun _ _ => rfl
 lk := fun j c hj hc hl => (B.not_lock hj hl).elim
theorem OwnRep.slice {w : World} {η : Nat → Option Nat} {h : Nat → Option Ob} {i : Nat} {v : Value} (hv : OwnRep w η h i v) : ∃ ad n k, v = .slice ad n k := by
 have _ := B
 unfold OwnRep at hv
 split at hv
 ·rcases hv with ⟨_, _, _, e⟩ | ⟨_, _, _, _, _, e, _⟩ <;> exact ⟨_, _, _, e⟩
 ·exact hv
theorem Back.still : Still w w' A A' η (ηB η η' n base os'.length) h (hB h L n base os') (fun i => h i ≠ none) where
 imm := fun b hb => ⟨B.lk.trans.immA b hb, B.lk.imm b hb⟩
 at_ := fun i hi => by unfold ηB; rw [if_neg (B.not_new hi)]
 own := fun i v hi hv => by
  rcases B.cases i with ⟨j, hj, e⟩ | ⟨h1, h2, h3⟩ | ⟨h1, h2, h3⟩
  ·by_cases hn : j < n
   ·obtain ⟨i', g1, g2, g3, g4, g5⟩ := B.take_get hn
    rw [e] at g2; subst g2
    have s1 : OwnRep w (ηP η L) (hP h L) j v := hv.arr (by unfold ηP; rw [g1]) (by unfold hP; rw [g1]) fun _ _ => rfl
    have hd : hP h L j ≠ none := by unfold hP; rw [g1]; dsimp only; obtain ⟨o, ho, _⟩ := B.closed i g4; rw [ho]; simp
    have s2 := B.lk.own j v hn hd s1
    exact s2.arr (by rw [← e]; exact (B.at_img hj).2) (by rw [← e]; exact (B.at_img hj).1) fun _ _ => rfl
   ·exfalso
    have e' : base + j = i := by rw [← e]; unfold back; rw [if_neg hn]
    exact B.not_new hi (by omega)
  ·obtain ⟨ad, k, c, rfl⟩ := OwnRep.slice B hv
   unfold OwnRep
   rw [h2]
   exact ⟨_, _, _, rfl⟩
  ·unfold OwnRep at hv ⊢
   rw [h2]
   cases ho : h i with
   | none => exact (hi ho).elim
   | some o =>
     rw [ho] at hv
     cases o with
     | arr r xs fz =>
       rcases hv with ⟨k1, k2⟩ | ⟨b', cap, c, T, k1, k2, k3, k4, k5⟩
       ·exact .inl ⟨by rw [h3, k1], k2⟩
       ·exact .inr ⟨b', cap, c, T, by rw [h3, k1], k2, k3, (B.kept h1 ho k1 (by simp)).trans k4, k5⟩
     | _ => exact hv
theorem Back.dom {i : Nat} (hi : h i ≠ none) : hB h L n base os' i ≠ none := by
 rcases B.cases i with ⟨j, hj, e⟩ | ⟨h1, h2, h3⟩ | ⟨h1, h2, h3⟩
 ·rw [← e, (B.at_img hj).1]
  simp [obs, hj]
 ·rw [h2]; simp
 ·rw [h2]; exact hi
theorem Back.dom_img {j : Nat} (hj : obs os' j ≠ none) : hB h L n base os' (back L n base j) ≠ none := by
 have hlt : j < os'.length := by
  rcases Nat.lt_or_ge j os'.length with h | h
  ·exact h
  ·simp only [obs] at hj; rw [List.getElem?_eq_none h] at hj; exact (hj rfl).elim
 rw [(B.at_img hlt).1]
 simp [obs, hlt]
theorem Back.owned_img {i j b : Nat} (hj : j < os'.length) (e : back L n base j = i) (hm : Mut (hB h L n base os') i) (hb : ηB η η' n base os'.length i = some b) : Owned (ηP η L) (hP h L) b ∨ w.heap.size ≤ b := by
 refine B.lk.trans.newM b ⟨j, B.img_mut hj e hm, ?_⟩
 rw [← (B.at_img hj).2, e]; exact hb
theorem Back.heap : HeapOk gl w' A' (ηB η η' n base os'.length) (hB h L n base os') where
 ob := fun i o ho => by
  rcases B.cases i with ⟨j, hj, e⟩ | ⟨h1, h2, h3⟩ | ⟨h1, h2, h3⟩
  ·rw [← e, (B.at_img hj).1, Option.map_eq_some_iff] at ho
   obtain ⟨o', g1, rfl⟩ := ho
   have := (B.okc.ob j o' g1).ren B.moved hj (fun k hk => by
    have := B.okc.dom j o' g1 k hk
    rcases Nat.lt_or_ge k os'.length with h | h
    ·exact h
    ·simp only [obs] at this; rw [List.getElem?_eq_none h] at this; exact (this rfl).elim) fun _ _ _ => rfl
   rwa [e] at this
  ·rw [h2] at ho; cases ho; trivial
  ·have ho' := ho
   rw [h2] at ho
   by_cases hd : o = .dead
   ·subst hd; trivial
   ·exact (B.ok.ob i o ho).mono B.still B.lkKept ho (B.ok.dom i o ho) fun b hb => B.kept h1 ho hb hd
 inj := fun i k b hi hk hbi hbk => by
  rcases B.cases i with ⟨j, hj, e⟩ | ⟨h1, h2, h3⟩ | ⟨h1, h2, h3⟩
  ·rcases B.cases k with ⟨j', hj', e'⟩ | ⟨g1, g2, g3⟩ | ⟨g1, g2, g3⟩
   ·have := B.okc.inj j j' b (B.img_mut hj e hi) (B.img_mut hj' e' hk) (by rw [← (B.at_img hj).2, e]; exact hbi) (by rw [← (B.at_img hj').2, e']; exact hbk)
    rw [← e, ← e', this]
   ·exact (B.not_dead g2 hk).elim
   ·rw [g3] at hbk
    obtain ⟨k1, k2⟩ := B.others g1 (B.mut_same g2 hk) hbk
    rcases B.owned_img hj e hi hbi with h | h
    ·exact (k2 h).elim
    ·omega
  ·exact (B.not_dead h2 hi).elim
  ·rw [h3] at hbi
   rcases B.cases k with ⟨j', hj', e'⟩ | ⟨g1, g2, g3⟩ | ⟨g1, g2, g3⟩
   ·obtain ⟨k1, k2⟩ := B.others h1 (B.mut_same h2 hi) hbi
    rcases B.owned_img hj' e' hk hbk with h | h
    ·exact (k2 h).elim
    ·omega
   ·exact (B.not_dead g2 hk).elim
   ·rw [g3] at hbk
    exact B.ok.inj i k b (B.mut_same h2 hi) (B.mut_same g2 hk) hbi hbk
 imm := B.okc.imm
 apart := fun i b hi hb hA => by
  rcases B.cases i with ⟨j, hj, e⟩ | ⟨h1, h2, h3⟩ | ⟨h1, h2, h3⟩
  ·exact B.okc.apart j b (B.img_mut hj e hi) (by rw [← (B.at_img hj).2, e]; exact hb) hA
  ·exact B.not_dead h2 hi
  ·rw [h3] at hb
   obtain ⟨k1, k2⟩ := B.others h1 (B.mut_same h2 hi) hb
   rcases B.lk.trans.newA b hA with h | h | h
   ·exact B.ok.apart i b (B.mut_same h2 hi) hb h
   ·exact k2 h
   ·omega
 dom := fun i o ho k hk => by
  rcases B.cases i with ⟨j, hj, e⟩ | ⟨h1, h2, h3⟩ | ⟨h1, h2, h3⟩
  ·rw [← e, (B.at_img hj).1, Option.map_eq_some_iff] at ho
   obtain ⟨o', g1, rfl⟩ := ho
   rw [Ob.ren_ids] at hk
   obtain ⟨x, hx, rfl⟩ := List.mem_map.1 hk
   exact B.dom_img (B.okc.dom j o' g1 x hx)
  ·rw [h2] at ho; cases ho; simp [Ob.ids] at hk
  ·rw [h2] at ho
   exact B.dom (B.ok.dom i o ho k hk)
 glob := B.okc.glob
theorem Back.step : HStep gl m w A η h w' A' (ηB η η' n base os'.length) (hB h L n base os') where
 ok := B.heap
 still := B.still
 trans := {
  size := B.lk.trans.size
  kept := fun b hb hn => B.lk.trans.kept b hb fun ho => hn (owned_pick ho)
  immA := B.lk.trans.immA
  newA := fun b hb => (B.lk.trans.newA b hb).imp id fun h => h.imp owned_pick id
  newM := fun b ⟨i, hm, hb⟩ => by
   rcases B.cases i with ⟨j, hj, e⟩ | ⟨h1, h2, h3⟩ | ⟨h1, h2, h3⟩
   ·exact (B.owned_img hj e hm hb).imp owned_pick id
   ·exact (B.not_dead h2 hm).elim
   ·exact .inl ⟨i, B.mut_same h2 hm, h3 ▸ hb⟩
  roots := fun i hi => by unfold ηB; rw [if_neg (by have := B.mb; omega)]
  rest := B.lk.trans.rest
  frz := B.lk.trans.frz
  tie := B.lk.trans.tie }
 dom := fun i hi => B.dom hi
 lk := B.lkKept
end
end Vm
namespace Vm
open Go
theorem look_none {α : Type} : {l : List (Nat × α)} → {i : Nat} → (∀ p ∈ l, p.1 ≠ i) → look l i = none
 | [], _, _ => rfl
 | (j, x) :: l, i, h => by
   simp only [look]
   rw [if_neg (h (j, x) (by simp))]
   exact look_none fun p hp => h p (by simp [hp])
theorem zip_keys {α : Type} : {l : List α} → {n : Nat} → ∀ p ∈ zipFrom n l, n ≤ p.1 ∧ p.1 < n + l.length
 | [], n, p, hp => by simp [zipFrom] at hp
 | x :: l, n, p, hp => by
   simp only [zipFrom, List.mem_cons] at hp
   rcases hp with rfl | hp
   ·simp
   ·obtain ⟨h1, h2⟩ := zip_keys p hp
    simp only [List.length_cons]
    omega
theorem look_ren {ρ : Nat → Nat} {f : Ob → Ob} : (l : List Ob) → (n : Nat) → (∀ i j, n ≤ i → i < n + l.length → n ≤ j → j < n + l.length → ρ i = ρ j → i = j) → (j : Nat) → j < l.length →
  look ((zipFrom n l).map fun p => (ρ p.1, f p.2)) (ρ (n + j)) = (l[j]?).map f
 | [], n, _, j, hj => by simp at hj
 | x :: l, n, hinj, j, hj => by
   simp only [zipFrom, List.map_cons, look]
   cases j with
   | zero => simp
   | succ j =>
     simp only [List.length_cons] at hinj hj
     rw [if_neg (fun e => by have := hinj n (n + (j + 1)) (Nat.le_refl _) (by omega) (by omega) (by omega) e; omega)]
     have := look_ren (f := f) l (n + 1) (fun a b h1 h2 h3 h4 => hinj a b (by omega) (by omega) (by omega) (by omega)) j (by omega)
     rw [show n + 1 + j = n + (j + 1) by omega] at this
     rw [this]
     simp
theorem look_const {L : List Nat} {i : Nat} {o : Ob} (hi : i ∈ L) : look (L.map fun i => (i, o)) i = some o := by
 induction L with
 | nil => cases hi
 | cons j L ih =>
   simp only [List.map_cons, look]
   by_cases e : j = i
   ·rw [if_pos e]
   ·rw [if_neg e]
    rcases List.mem_cons.1 hi with rfl | hi
    ·exact (e rfl).elim
    ·exact ih hi
mutual
theorem V.noshare {w w' : World} {A A' : ASet} {η η' : Nat → Option Nat} {h h' : Nat → Option Ob} : (v : V) → (c : Value) → v.shares = false → v.ids = [] → V.Rep w A η h v c → V.Rep w' A' η' h' v c
 | .agg l, c, hs, hi, hr => by
   simp only [V.Rep] at hr ⊢
   obtain ⟨cs, rfl, hl⟩ := hr
   exact ⟨cs, rfl, V.noshareL l _ hs hi hl⟩
 | .tuple l, c, hs, hi, hr => by
   simp only [V.Rep] at hr ⊢
   obtain ⟨cs, rfl, hl⟩ := hr
   exact ⟨cs, rfl, V.noshareL l _ hs hi hl⟩
 | .int _ _, _, _, _, hr => by simp only [V.Rep] at hr ⊢; exact hr
 | .bool _, _, _, _, hr => by simp only [V.Rep] at hr ⊢; exact hr
 | .str _, _, _, _, hr => by simp only [V.Rep] at hr ⊢; exact hr
 | .nilsl, _, _, _, hr => by simp only [V.Rep] at hr ⊢; exact hr
 | .nilp, _, _, _, hr => by simp only [V.Rep] at hr ⊢; exact hr
 | .nilfn, _, _, _, hr => by simp only [V.Rep] at hr ⊢; exact hr
 | .nilif, _, _, _, hr => by simp only [V.Rep] at hr ⊢; exact hr
 | .nilmap, _, _, _, hr => by simp only [V.Rep] at hr ⊢; exact hr
 | .undef, _, _, _, hr => by simp only [V.Rep] at hr ⊢; exact hr
 | .sl _ _, _, hs, _, _ => by cases hs
 | .emp _ _, _, hs, _, _ => by cases hs
 | .rod _ _ _, _, hs, _, _ => by cases hs
 | .rodA _ _, _, hs, _, _ => by cases hs
 | .fn _ _ _, _, hs, _, _ => by cases hs
 | .iface _ _, _, hs, _, _ => by cases hs
 | .win _ _ _ _, _, _, hi, _ => by cases hi
 | .ref _ _ _ _, _, _, hi, _ => by cases hi
 | .own _, _, _, hi, _ => by cases hi
 | .map _, _, _, hi, _ => by cases hi
 | .yld _, _, _, hi, _ => by cases hi
 | .stamp _, _, _, hi, _ => by cases hi
theorem V.noshareL {w w' : World} {A A' : ASet} {η η' : Nat → Option Nat} {h h' : Nat → Option Ob} : (l : List V) → (cs : List Value) → V.sharesL l = false → V.idsL l = [] → V.RepL w A η h l cs → V.RepL w' A' η' h' l cs
 | [], _, _, _, hr => by simp only [V.RepL] at hr ⊢; exact hr
 | v :: l, cs, hs, hi, hr => by
   simp only [V.sharesL, Bool.or_eq_false_iff] at hs
   simp only [V.idsL, List.append_eq_nil_iff] at hi
   simp only [V.RepL] at hr ⊢
   obtain ⟨c, cs, rfl, h1, h2⟩ := hr
   exact ⟨c, cs, rfl, V.noshare v c hs.1 hi.1 h1, V.noshareL l cs hs.2 hi.2 h2⟩
end
mutual
theorem V.ren_none {ρ : Nat → Nat} : (v : V) → v.ids = [] → v.ren ρ = v
 | .agg l, hi => by simp only [V.ren]; rw [V.renL_none l hi]
 | .tuple l, hi => by simp only [V.ren]; rw [V.renL_none l hi]
 | .fn f a b, hi => by
   simp only [V.ids, List.append_eq_nil_iff] at hi
   simp only [V.ren]; rw [V.renL_none a hi.1, V.renL_none b hi.2]
 | .iface t v, hi => by simp only [V.ren]; rw [V.ren_none v hi]
 | .int _ _, _ => rfl
 | .bool _, _ => rfl
 | .str _, _ => rfl
 | .emp _ _, _ => rfl
 | .nilsl, _ => rfl
 | .nilp, _ => rfl
 | .nilfn, _ => rfl
 | .nilif, _ => rfl
 | .nilmap, _ => rfl
 | .undef, _ => rfl
 | .sl _ _, _ => rfl
 | .rod _ _ _, _ => rfl
 | .rodA _ _, _ => rfl
 | .win _ _ _ _, hi => by cases hi
 | .ref _ _ _ _, hi => by cases hi
 | .own _, hi => by cases hi
 | .map _, hi => by cases hi
 | .yld _, hi => by cases hi
 | .stamp _, hi => by cases hi
theorem V.renL_none {ρ : Nat → Nat} : (l : List V) → V.idsL l = [] → V.renL ρ l = l
 | [], _ => rfl
 | v :: l, hi => by
   simp only [V.idsL, List.append_eq_nil_iff] at hi
   simp only [V.renL]; rw [V.ren_none v hi.1, V.renL_none l hi.2]
end
section
variable {gl : Gl} {m : Nat} {w w' : World} {A A' : ASet} {η η' : Nat → Option Nat} {h h₁ : Nat → Option Ob} {L : List Nat} {n base : Nat} {os' : List Ob} {rest : List (Nat × Ob)}
theorem Back.inj (B : Back gl m w w' A A' η η' h L n base os') {i j : Nat} (hi : i < os'.length) (hj : j < os'.length) (e : back L n base i = back L n base j) : i = j := by
 by_cases h1 : i < n
 ·obtain ⟨x, a1, a2, a3, a4, a5⟩ := B.take_get h1
  by_cases h2 : j < n
  ·obtain ⟨y, b1, b2, b3, b4, b5⟩ := B.take_get h2
   rw [a2, b2] at e
   rw [← a5, ← b5, e]
  ·exfalso
   have e2 : back L n base j = base + j := by unfold back; rw [if_neg h2]
   rw [a2, e2] at e
   exact B.not_new (B.in_dom a4) (by omega)
 ·have e1 : back L n base i = base + i := by unfold back; rw [if_neg h1]
  by_cases h2 : j < n
  ·exfalso
   obtain ⟨y, b1, b2, b3, b4, b5⟩ := B.take_get h2
   rw [e1, b2] at e
   exact B.not_new (B.in_dom b4) (by omega)
  ·have e2 : back L n base j = base + j := by unfold back; rw [if_neg h2]
   omega
theorem Back.ups_eq (B : Back gl m w w' A A' η η' h₁ L n base os') (hr : ups rest h = h₁) :
  ups (((zipFrom 0 os').map fun p => (back L n base p.1, p.2.ren (back L n base))) ++ ((L.drop n).map fun i => (i, Ob.dead)) ++ rest) h = hB h₁ L n base os' := by
 funext i
 have e : ∀ (a b : List (Nat × Ob)), ups (a ++ b) h i = match look a i with
   | some o => some o
   | none => ups b h i := fun a b => by
  unfold ups; rw [look_append]; cases look a i <;> rfl
 rw [List.append_assoc, e]
 by_cases hc : ∃ j, j < os'.length ∧ back L n base j = i
 ·obtain ⟨j, hj, rfl⟩ := hc
  have := look_ren (ρ := back L n base) (f := Ob.ren (back L n base)) os' 0 (fun a b _ h1 _ h2 he => B.inj (by omega) (by omega) he) j hj
  rw [Nat.zero_add] at this
  rw [this, (B.at_img hj).1]
  simp [obs, hj]
 ·rw [look_none (l := (zipFrom 0 os').map fun p => (back L n base p.1, p.2.ren (back L n base))) (fun p hp he => by
    obtain ⟨q, hq, rfl⟩ := List.mem_map.1 hp
    have := zip_keys q hq
    exact hc ⟨q.1, by omega, he⟩)]
  dsimp only
  rw [e, hr]
  rcases B.cases i with hi | ⟨h1, h2, h3⟩ | ⟨h1, h2, h3⟩
  ·exact (hc hi).elim
  ·have : i ∈ L.drop n := by
     have h4 := h1
     rw [← List.take_append_drop n L, List.mem_append] at h4
     rcases h4 with h4 | h4
     ·exfalso
      obtain ⟨g1, g2, g3, g4⟩ := B.take_pos h4
      exact hc ⟨_, Nat.lt_of_lt_of_le g1 B.le', g4⟩
     ·exact h4
   rw [look_const this, h2]
  ·rw [look_none (l := (L.drop n).map fun i => (i, Ob.dead)) (fun p hp he => by
     obtain ⟨q, hq, rfl⟩ := List.mem_map.1 hp
     exact h1 (he ▸ List.mem_of_mem_drop hq)), h2]
mutual
theorem V.ren_back {ρ σ : Nat → Nat} : (v : V) → (∀ i ∈ v.ids, σ (ρ i) = i) → (v.ren ρ).ren σ = v
 | .agg l, hi => by simp only [V.ren]; rw [V.renL_back l hi]
 | .tuple l, hi => by simp only [V.ren]; rw [V.renL_back l hi]
 | .fn f a b, hi => by
   simp only [V.ids, List.mem_append] at hi
   simp only [V.ren]; rw [V.renL_back a fun i h => hi i (.inl h), V.renL_back b fun i h => hi i (.inr h)]
 | .iface t v, hi => by simp only [V.ren]; rw [V.ren_back v hi]
 | .int _ _, _ => rfl
 | .bool _, _ => rfl
 | .str _, _ => rfl
 | .emp _ _, _ => rfl
 | .nilsl, _ => rfl
 | .nilp, _ => rfl
 | .nilfn, _ => rfl
 | .nilif, _ => rfl
 | .nilmap, _ => rfl
 | .undef, _ => rfl
 | .sl _ _, _ => rfl
 | .rod _ _ _, _ => rfl
 | .rodA _ _, _ => rfl
 | .win i _ _ _, hi => by simp only [V.ren]; rw [hi i (by simp [V.ids])]
 | .ref i _ _ _, hi => by simp only [V.ren]; rw [hi i (by simp [V.ids])]
 | .own i, hi => by simp only [V.ren]; rw [hi i (by simp [V.ids])]
 | .map i, hi => by simp only [V.ren]; rw [hi i (by simp [V.ids])]
 | .yld i, hi => by simp only [V.ren]; rw [hi i (by simp [V.ids])]
 | .stamp i, hi => by simp only [V.ren]; rw [hi i (by simp [V.ids])]
theorem V.renL_back {ρ σ : Nat → Nat} : (l : List V) → (∀ i ∈ V.idsL l, σ (ρ i) = i) → V.renL σ (V.renL ρ l) = l
 | [], _ => rfl
 | v :: l, hi => by
   simp only [V.idsL, List.mem_append] at hi
   simp only [V.renL]; rw [V.ren_back v fun i h => hi i (.inl h), V.renL_back l fun i h => hi i (.inr h)]
end
theorem Ob.ren_back {ρ σ : Nat → Nat} (o : Ob) (hc : o.calm = true) (hi : ∀ i ∈ o.ids, σ (ρ i) = i) : (o.ren ρ).ren σ = o := by
 cases o with
 | var l => simp only [Ob.ren]; rw [V.renL_back l hi]
 | loop y fr st =>
   simp only [Ob.ren, List.map_map]
   congr 1
   have : ∀ l : List (Nat × V), (∀ i ∈ V.idsL (l.map (·.2)), σ (ρ i) = i) → l.map ((fun p : Nat × V => (p.1, p.2.ren σ)) ∘ fun p => (p.1, p.2.ren ρ)) = l := by
    intro l
    induction l with
    | nil => intro _; rfl
    | cons p l ih =>
      intro h
      simp only [List.map_cons, V.idsL, List.mem_append] at h
      simp only [List.map_cons, Function.comp]
      rw [V.ren_back p.2 fun i hi => h i (.inl hi)]
      congr 1
      exact ih fun i hi => h i (.inr hi)
   exact this fr hi
 | lmap _ _ _ _ _ _ => cases hc
 | miter _ _ _ _ _ _ _ => cases hc
 | emap _ _ _ _ _ _ _ _ => cases hc
 | _ => rfl
theorem Back.ups_new (B : Back gl m w w' A A' η η' h₁ L n base os') (hr : ups rest h = h₁) (hn : n = L.length) {os : List Ob} (hos : obsOf h₁ (posIn L) L = some os) (hcalm : ∀ o ∈ os, o.calm = true) (ho : os'.take n = os) :
  ups ((((zipFrom 0 os').drop n).map fun p => (back L n base p.1, p.2.ren (back L n base))) ++ ((L.drop n).map fun i => (i, Ob.dead)) ++ rest) h = hB h₁ L n base os' := by
 rw [← B.ups_eq hr]
 funext i
 have e : ∀ (a b : List (Nat × Ob)), ups (a ++ b) h i = match look a i with
   | some o => some o
   | none => ups b h i := fun a b => by
  unfold ups; rw [look_append]; cases look a i <;> rfl
 have hz : zipFrom 0 os' = (zipFrom 0 os').take n ++ (zipFrom 0 os').drop n := (List.take_append_drop n _).symm
 subst hn
 rw [List.drop_length, List.map_nil, List.append_nil, List.append_nil, e, e]
 by_cases hi : i ∈ L
 ·
  have hp := posIn_get hi
  have hlt := posIn_lt hi
  have hb : back L L.length base (posIn L i) = i := by unfold back; rw [if_pos hlt, List.getD_eq_getElem?_getD, hp]; rfl
  have h1 := look_ren (ρ := back L L.length base) (f := Ob.ren (back L L.length base)) os' 0 (fun a b _ h1 _ h2 he => B.inj (by omega) (by omega) he) (posIn L i) (Nat.lt_of_lt_of_le hlt B.le')
  rw [Nat.zero_add, hb] at h1
  have h2 : os'[posIn L i]? = os[posIn L i]? := by rw [← ho, List.getElem?_take_of_lt hlt]
  obtain ⟨o, g1, g2⟩ := B.closed i hi
  have h3 : os[posIn L i]? = some (o.ren (posIn L)) := by rw [(obsOf_spec hos).2, hp]; simp [g1]
  have hc : o.calm = true := by
   have := hcalm _ (List.mem_of_getElem? h3)
   cases o <;> first | rfl | exact this
  rw [h2, h3, Option.map_some, Ob.ren_back o hc fun k hk => by
   have hk := g2 k hk
   unfold back; rw [if_pos (posIn_lt hk), List.getD_eq_getElem?_getD, posIn_get hk]; rfl] at h1
  rw [h1, look_none (l := ((zipFrom 0 os').drop L.length).map fun p => (back L L.length base p.1, p.2.ren (back L L.length base))) (fun p hp' he => by
   obtain ⟨q, hq, rfl⟩ := List.mem_map.1 hp'
   rw [zip_drop, Nat.zero_add] at hq
   have hk := zip_keys q hq
   simp only [List.length_drop] at hk
   simp only [back, if_neg (show ¬ q.1 < L.length by omega)] at he
   exact B.not_new (B.in_dom hi) (by omega))]
  dsimp only
  rw [hr, g1]
 ·
  have : look ((zipFrom 0 os').map fun p => (back L L.length base p.1, p.2.ren (back L L.length base))) i = look (((zipFrom 0 os').drop L.length).map fun p => (back L L.length base p.1, p.2.ren (back L L.length base))) i := by
   conv => lhs; rw [hz]
   rw [List.map_append, look_append, look_none (l := ((zipFrom 0 os').take L.length).map fun p => (back L L.length base p.1, p.2.ren (back L L.length base))) (fun p hp' he => by
    obtain ⟨q, hq, rfl⟩ := List.mem_map.1 hp'
    have hq1 : q.1 < L.length := by
     obtain ⟨k, hk⟩ := List.mem_iff_getElem?.1 hq
     rw [List.getElem?_take] at hk
     split at hk
     ·have hz' : ∀ (l : List Ob) (n k : Nat) (q : Nat × Ob), (zipFrom n l)[k]? = some q → q.1 = n + k := by
        intro l
        induction l with
        | nil => intro n k q h; simp [zipFrom] at h
        | cons x l ih =>
          intro n k q h
          cases k with
          | zero => simp [zipFrom] at h; subst h; rfl
          | succ k => simp [zipFrom] at h; have := ih (n + 1) k q h; omega
      have := hz' os' 0 k q hk
      omega
     ·cases hk
    obtain ⟨x, a1, a2, a3, a4, a5⟩ := B.take_get hq1
    rw [a2] at he
    exact hi (he ▸ a4))]
  rw [this]
theorem calls_ok {P : Program} {E : Env} (hN : E.Nat) (hC : ∀ f args os v os', E.Γ f args os (fun v o => some (v, o)) = some (v, os') → Said (E.ob f) (E.stay f) P E.gl f args os v os') : CallsOk P E := by
 intro gl m w A η h base f args v up hgl hok hmb hv cs hrep hdom o a Q K hK
 subst hgl
 unfold vcall at hv
 cases hle : lend E h f args with
 | none => rw [hle] at hv; cases hv
 | some q =>
   obtain ⟨as, lent⟩ := q
   rw [hle] at hv
   dsimp only at hv
   cases hor : order h (dedup (V.rootsL as) []) (V.idsL as) with
   | none => rw [hor] at hv; cases hv
   | some L =>
     rw [hor] at hv
     dsimp only at hv
     cases hos : obsOf h (posIn L) L with
     | none => rw [hos] at hv; cases hv
     | some os =>
       rw [hos] at hv
       dsimp only at hv
       split at hv
       ·cases hv
       ·rename_i hany
        simp only [Bool.or_eq_true, not_or, Bool.not_eq_true', Bool.not_eq_false] at hany
        obtain ⟨hany, hcalm⟩ := hany
        have hcalm : ∀ o ∈ os, o.calm = true := List.all_eq_true.1 hcalm
        rw [hN] at hv
        cases hΓ : E.Γ f (V.renL (posIn L) as) os (fun v o => some (v, o)) with
        | none => rw [hΓ] at hv; cases hv
        | some q =>
          obtain ⟨u, os'⟩ := q
          rw [hΓ] at hv
          dsimp only at hv
          have hO := order_spec hor
          obtain ⟨hf1, hf2, hf3⟩ := hO.first
          have hroots : rootsN (V.renL (posIn L) as) = (dedup (V.rootsL as) []).length := by
           unfold rootsN
           rw [V.renL_roots]
           have := dedup_map (ρ := posIn L) (I := (· ∈ L)) (fun i j hi hj e => posIn_inj hi hj e) (V.rootsL as) [] (fun i hi => hO.sub i (V.rootsL_ids as i hi)) (by simp)
           simp only [List.map_nil] at this
           rw [this, List.length_map]
          obtain ⟨n, hnd⟩ : ∃ n, (bif E.full f then L.length else (dedup (V.rootsL as) []).length) = n := ⟨_, rfl⟩
          rw [hnd] at hv
          have hsaid := hC f _ os u os' hΓ
          have hlo : os.length = L.length := (obsOf_spec hos).1
          have hnL : n ≤ L.length ∧ ContractM P E.gl n f (V.renL (posIn L) as) os u os' ∧ (E.ob f = true → n = L.length ∧ os'.take n = os) := by
           unfold Said at hsaid
           unfold Env.full at hnd
           cases hob : E.ob f with
           | false =>
             rw [hob, cond_false] at hsaid
             rw [hob, Bool.false_or] at hnd
             cases hfl : E.stay f with
             | false =>
               rw [hfl, cond_false] at hsaid hnd
               unfold Contract at hsaid
               rw [hroots, hnd] at hsaid
               exact ⟨by omega, hsaid, fun e => by cases e⟩
             | true =>
               rw [hfl, cond_true] at hsaid hnd
               rw [hlo, hnd] at hsaid
               exact ⟨by omega, hsaid, fun e => by cases e⟩
           | true =>
             rw [hob, cond_true] at hsaid
             rw [hob, Bool.true_or, cond_true] at hnd
             rw [hlo, hnd] at hsaid
             exact ⟨by omega, hsaid.1, fun _ => ⟨hnd.symm, hsaid.2⟩⟩
          obtain ⟨hf1, hcon, hobs⟩ := hnL
          split at hv
          ·cases hv
          ·rename_i hg
           simp only [one, Option.some.injEq, Prod.mk.injEq] at hv
           obtain ⟨rfl, rfl⟩ := hv
           simp only [Bool.or_eq_true, not_or, decide_eq_true_eq, Bool.not_eq_true', Bool.not_eq_false, Nat.not_lt] at hg
           obtain ⟨⟨⟨⟨⟨hn, hvi⟩, hoi⟩, h64⟩, hcalm'⟩, hfree⟩ := hg
           have hcalm' : ∀ j o, obs os' j = some o → o.calm = true := fun j o ho => List.all_eq_true.1 hcalm' o (List.mem_of_getElem? ho)
           have hnot : ∀ i ∈ lent, i ∉ L := fun i hi hc => hany (List.any_eq_true.2 ⟨i, hi, by simpa using hc⟩)
           have hlend : (∀ i ∈ lent, ∃ r xs fz, h i = some (.arr r xs fz)) ∧ (∀ A', (∀ b, A b → A' b) → (∀ i ∈ lent, ∀ b, η i = some b → A' b) → V.RepL w A' η h as cs.toList) := by
            unfold lend at hle
            split at hle
            ·cases hle
             exact ⟨by simp, fun A' h1 _ => V.RepL.mono (I := fun _ => True) ⟨fun b hb => ⟨h1 b hb, rfl⟩, fun _ _ => rfl, fun _ _ _ hx => hx⟩ _ _ (fun _ _ => trivial) hrep⟩
            ·obtain ⟨g1, g2, g3⟩ := V.plainL_rep hok args as lent hle _ hrep
             exact ⟨fun i hi => (g3 i hi).2, g1⟩
           obtain ⟨harr, hasrep⟩ := hlend
           obtain ⟨A₁, st₁, hA₁, _, _⟩ := HStep.froze (m := m) hok lent harr
           have hsame : ∀ i ∈ L, ups (froze h lent) h i = h i := fun i hi => froze_ne fun hc => hnot i hc hi
           have ehP : hP (ups (froze h lent) h) L = hP h L := by
            funext j
            unfold hP
            cases hj : L[j]? with
            | none => rfl
            | some i => dsimp only; rw [hsame i (List.mem_of_getElem? hj)]
           have hcl : ∀ i ∈ L, ∃ o, ups (froze h lent) h i = some o ∧ ∀ j ∈ o.ids, j ∈ L := fun i hi => by
            rw [hsame i hi]; exact hO.closed i hi
           have okp := st₁.ok.pick hO.nodup hcl
           rw [ehP] at okp
           have hrep₁ : V.RepL w A₁ η (ups (froze h lent) h) as cs.toList :=
            V.RepL.mono (I := fun i => i ∈ L) ⟨fun b hb => ⟨hb, rfl⟩, fun _ _ => rfl, fun i x hi hx => by unfold OwnRep at hx ⊢; rw [hsame i hi]; exact hx⟩ as _ hO.sub
             (hasrep A₁ (fun b hb => (hA₁ b).2 (.inl hb)) fun i hi b hb => (hA₁ b).2 (.inr ⟨i, hi, hb⟩))
           have hrep₂ := V.RepL.ren (pick_moved (w := w) (A := A₁) (η := η) (h := ups (froze h lent) h) (L := L)) as _ hO.sub hrep₁
           rw [ehP] at hrep₂
           refine hcon w A₁ (ηP η L) (by rw [obs_hP hos]; exact okp) cs (by rw [obs_hP hos]; exact hrep₂) (fun i hi => ?_) o a Q K fun c w' A' η' ok' lk' rep' dom' => ?_
           ·rw [V.renL_ids] at hi
            obtain ⟨x, hx, rfl⟩ := List.mem_map.1 hi
            rw [obs_hP hos, hP_at (hO.sub x hx)]
            obtain ⟨o', ho', _⟩ := hO.closed x (hO.sub x hx)
            rw [ho']; simp
           ·rw [obs_hP hos] at lk'
            have hfree' : ∀ j, n ≤ j → j < os'.length → h (base + j) = none := fun j h1 h2 => by
             rw [List.all_eq_true] at hfree
             have := hfree j (by simpa using h2)
             simp only [Bool.or_eq_true, decide_eq_true_eq, Option.isNone_iff_eq_none] at this
             exact this.resolve_left (by omega)
            change Then E.gl m w A η h (ups (((bif E.ob f then (zipFrom 0 os').drop n else zipFrom 0 os').map fun p => (back L n base p.1, p.2.ren (back L n base))) ++
             ((L.drop n).map fun i => (i, Ob.dead)) ++ (if (u.shares || !os'.isEmpty) = true then froze h lent else [])) h) (u.ren (back L n base)) _ at hK
            have hup : ∀ (rest : List (Nat × Ob)) {A₂ A₃ : ASet} {η₃ : Nat → Option Nat} {w₃ : World}, Back E.gl m w w₃ A₂ A₃ η η₃ (ups rest h) L n base os' → (∀ i ∈ L, ups rest h i = h i) →
              ups (((bif E.ob f then (zipFrom 0 os').drop n else zipFrom 0 os').map fun p => (back L n base p.1, p.2.ren (back L n base))) ++ ((L.drop n).map fun i => (i, Ob.dead)) ++ rest) h = hB (ups rest h) L n base os' := by
             intro rest A₂ A₃ η₃ w₃ B hsm
             cases hob : E.ob f with
             | false => rw [cond_false]; exact B.ups_eq rfl
             | true =>
               rw [cond_true]
               obtain ⟨e1, e2⟩ := hobs hob
               refine B.ups_new rfl e1 (os := os) ?_ hcalm e2
               have : ∀ M : List Nat, (∀ i ∈ M, ups rest h i = h i) → obsOf (ups rest h) (posIn L) M = obsOf h (posIn L) M := by
                intro M
                induction M with
                | nil => intro _; rfl
                | cons i M ih => intro hM; simp only [obsOf]; rw [hM i (by simp), ih fun k hk => hM k (by simp [hk])]
               rw [this L hsm, hos]
            cases hflag : (u.shares || !os'.isEmpty) with
            | true =>
              rw [hflag, if_pos rfl] at hK
              have B : Back E.gl m w w' A₁ A' η η' (ups (froze h lent) h) L n base os' :=
               ⟨st₁.ok, hO.nodup, hcl, hf1, hn, fun j h1 h2 => froze_fresh (hfree' j h1 h2), hmb, ok', by rw [ehP]; exact lk', hcalm'⟩
              have e := hup (froze h lent) B hsame
              have st := st₁.trans' B.step
              rw [e] at hK
              refine hK c w' A' _ st ?_ ?_
              ·exact V.Rep.ren B.moved u c (fun i hi => by
                 rw [List.all_eq_true] at hvi
                 simpa using hvi i hi) rep'
              ·intro i hi
               rw [V.ren_ids] at hi
               obtain ⟨x, hx, rfl⟩ := List.mem_map.1 hi
               exact B.dom_img (dom' x hx)
            | false =>
              rw [hflag, if_neg (by simp)] at hK
              simp only [Bool.or_eq_false_iff, Bool.not_eq_eq_eq_not, Bool.not_false, List.isEmpty_iff] at hflag
              obtain ⟨hsh, rfl⟩ := hflag
              simp only [List.length_nil, Nat.le_zero_eq] at hn
              subst hn
              have hui : u.ids = [] := by
               rw [List.all_eq_true] at hvi
               rw [List.eq_nil_iff_forall_not_mem]
               intro i hi
               have := hvi i hi
               simp at this
              have B : Back E.gl m w w' A A η η' h L 0 base [] :=
               ⟨hok, hO.nodup, hO.closed, Nat.zero_le _, by simp, fun j h1 h2 => by simp at h2, hmb,
                 ⟨fun i o ho => by simp [obs] at ho, fun i j b hi => by simp [Mut, obs] at hi, fun b hb => Nat.lt_of_lt_of_le (hok.imm b hb) lk'.trans.size, fun i b hi => by simp [Mut, obs] at hi, fun i o ho => by simp [obs] at ho,
                   hok.glob.mono (fun b hb => ⟨hb, lk'.imm b ((hA₁ b).2 (.inl hb))⟩)⟩,
                 ⟨⟨lk'.trans.size, lk'.trans.kept, fun _ hb => hb, fun _ hb => .inl hb, fun b ⟨i, hi, _⟩ => by simp [Mut, obs] at hi, fun i hi => by omega, lk'.trans.rest, lk'.trans.frz, lk'.trans.tie⟩,
                   fun b hb => lk'.imm b ((hA₁ b).2 (.inl hb)), fun i v hi => by omega, fun i hi => by omega⟩, fun j o ho => by simp [obs] at ho⟩
              have e := hup [] B (fun _ _ => rfl)
              have st := B.step
              rw [show ups ([] : List (Nat × Ob)) h = h from rfl] at e
              rw [e] at hK
              refine hK c w' A _ st ?_ ?_
              ·rw [V.ren_none u hui]
               exact V.noshare u c hsh hui rep'
              ·intro i hi
               rw [V.ren_none u hui, hui] at hi
               cases hi
end
end Vm
