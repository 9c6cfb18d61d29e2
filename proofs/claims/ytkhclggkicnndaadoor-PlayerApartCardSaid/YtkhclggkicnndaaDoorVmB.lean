/- The value machine's operations are sound: what is reckoned, rows, new blocks, slices. -/
import Derived.Test.YtkhclggkicnndaaDoorVmA
import Derived.Laws.Strings
import Derived.IntWalk
namespace Vm
open Go
section ops
variable {P : Program} {E : Env} {gl : Gl} {m : Nat} {w : World} {A : ASet} {η : Nat → Option Nat} {fr : Nat → Option V} {h : Nat → Option Ob} {a : Act}
variable {R : Type} {kk : Kk R} {r : R}
theorem byteArray_toList (s : List UInt8) : (⟨s.toArray⟩ : ByteArray).toList = s := by
 rw [ByteArray.toList_eq]
theorem equal_step {t : TypeId} {x y : Value} : Op.equal t x y = Op.equalIn (9999 + 1) t x y := rfl
theorem arith_run {op : BinOp} {k k' : IntKind} {x y : Int} {S : Type} {k₁ : V → Option S} {s : S} (hk : (op = .shl ∨ op = .shr) ∨ k = k') (hv : arith op k x y k₁ = some s) (xt : TypeId) :
  ∃ v c, (∀ (S : Type) (k₁ : V → Option S), arith op k x y k₁ = k₁ v) ∧ (binOp op xt (.int k x) (.int k' y)).run P w = .ok c w ∧ (∀ w A η h, V.Rep w A η h v c) ∧ v.ids = [] := by
 cases op <;> simp only [arith] at hv
 case add => 
  obtain rfl := hk.resolve_left (by simp)
  exact ⟨.int k (k.wrap (x + y)), _, fun _ _ => rfl, by simp [binOp, Op.intArith]; rfl, fun _ _ _ _ => by simp [V.Rep], rfl⟩
 case sub => 
  obtain rfl := hk.resolve_left (by simp)
  exact ⟨.int k (k.wrap (x - y)), _, fun _ _ => rfl, by simp [binOp, Op.intArith]; rfl, fun _ _ _ _ => by simp [V.Rep], rfl⟩
 case mul => 
  obtain rfl := hk.resolve_left (by simp)
  exact ⟨.int k (k.wrap (x * y)), _, fun _ _ => rfl, by simp [binOp, Op.intArith]; rfl, fun _ _ _ _ => by simp [V.Rep], rfl⟩
 case quo =>
  obtain rfl := hk.resolve_left (by simp)
  by_cases h0 : y = 0
  ·simp [h0] at hv
  ·exact ⟨.int k (k.wrap (x.tdiv y)), .int k (k.wrap (x.tdiv y)), fun _ _ => by simp [arith, h0], by simp [binOp, Op.intDiv, h0], fun _ _ _ _ => by simp [V.Rep], rfl⟩
 case rem =>
  obtain rfl := hk.resolve_left (by simp)
  by_cases h0 : y = 0
  ·simp [h0] at hv
  ·exact ⟨.int k (x.tmod y), .int k (x.tmod y), fun _ _ => by simp [arith, h0], by simp [binOp, Op.intDiv, h0], fun _ _ _ _ => by simp [V.Rep], rfl⟩
 case shl =>
  by_cases h0 : y < 0
  ·simp [h0] at hv
  ·exact ⟨.int k (k.wrap (x * 2 ^ (min y.toNat k.bits))), .int k (k.wrap (x * 2 ^ (min y.toNat k.bits))), fun _ _ => by simp [arith, h0], by simp [binOp, Op.shift, h0], fun _ _ _ _ => by simp [V.Rep], rfl⟩
 case shr =>
  by_cases h0 : y < 0
  ·simp [h0] at hv
  ·exact ⟨.int k (x.fdiv (2 ^ (min y.toNat k.bits))), .int k (x.fdiv (2 ^ (min y.toNat k.bits))), fun _ _ => by simp [arith, h0], by simp [binOp, Op.shift, h0], fun _ _ _ _ => by simp [V.Rep], rfl⟩
 case eql =>
  obtain rfl := hk.resolve_left (by simp)
  exact ⟨.bool (decide (x = y)), .bool (decide (x = y)), fun _ _ => rfl, by simp [binOp, Op.intCmp]; rfl, fun _ _ _ _ => by simp [V.Rep], rfl⟩
 case neq =>
  obtain rfl := hk.resolve_left (by simp)
  exact ⟨.bool (!decide (x = y)), .bool (!decide (x = y)), fun _ _ => rfl, by simp [binOp, Op.intCmp]; rfl, fun _ _ _ _ => by simp [V.Rep], rfl⟩
 case lss =>
  obtain rfl := hk.resolve_left (by simp)
  exact ⟨.bool (decide (x < y)), .bool (decide (x < y)), fun _ _ => rfl, by simp [binOp, Op.intCmp], fun _ _ _ _ => by simp [V.Rep], rfl⟩
 case leq =>
  obtain rfl := hk.resolve_left (by simp)
  exact ⟨.bool (decide (x ≤ y)), .bool (decide (x ≤ y)), fun _ _ => rfl, by simp [binOp, Op.intCmp], fun _ _ _ _ => by simp [V.Rep], rfl⟩
 case gtr =>
  obtain rfl := hk.resolve_left (by simp)
  exact ⟨.bool (decide (y < x)), .bool (decide (y < x)), fun _ _ => rfl, by simp [binOp, Op.intCmp], fun _ _ _ _ => by simp [V.Rep], rfl⟩
 case geq =>
  obtain rfl := hk.resolve_left (by simp)
  exact ⟨.bool (decide (y ≤ x)), .bool (decide (y ≤ x)), fun _ _ => rfl, by simp [binOp, Op.intCmp], fun _ _ _ _ => by simp [V.Rep], rfl⟩
 case and =>
  obtain rfl := hk.resolve_left (by simp)
  exact ⟨.int k (bitop .and k x y), .int k (bitop .and k x y), fun _ _ => rfl, by simp [binOp, Op.intBits, bitop], fun _ _ _ _ => by simp [V.Rep], rfl⟩
 case or =>
  obtain rfl := hk.resolve_left (by simp)
  exact ⟨.int k (bitop .or k x y), .int k (bitop .or k x y), fun _ _ => rfl, by simp [binOp, Op.intBits, bitop], fun _ _ _ _ => by simp [V.Rep], rfl⟩
 case xor =>
  obtain rfl := hk.resolve_left (by simp)
  exact ⟨.int k (bitop .xor k x y), .int k (bitop .xor k x y), fun _ _ => rfl, by simp [binOp, Op.intBits, bitop], fun _ _ _ _ => by simp [V.Rep], rfl⟩
 case andNot =>
  obtain rfl := hk.resolve_left (by simp)
  exact ⟨.int k (bitop .andNot k x y), .int k (bitop .andNot k x y), fun _ _ => rfl, by simp [binOp, Op.intBits, bitop], fun _ _ _ _ => by simp [V.Rep], rfl⟩
theorem guard_plain {op : BinOp} {t : TypeId} {x y : Operand} {c d : Value} (h1 : c ≠ .nilIface ∨ d ≠ .nilIface) (h2 : (∀ cs, c ≠ .agg cs) ∨ ∀ cs, d ≠ .agg cs) : (eqGuard op t x y c d).run P w = .ok () w := by
 unfold eqGuard
 cases op <;> simp only [Bool.not_true, Bool.not_false, if_true, Bool.false_eq_true, if_false, Sem.run_pure]
 all_goals
  split
  ·simp at h1
  ·simp at h2
  ·simp
theorem RowVals.repL : (r : Ks) → (x : r.Ty) → (l : List Value) → RowVals w A r x l → V.RepL w A η h (r.cells x) l
 | .nil, x, l, hr => by simp only [RowVals] at hr; simp only [Ks.cells, V.RepL]; exact hr
 | .cons k .nil, x, l, hr => by
   simp only [RowVals] at hr
   obtain ⟨v, rfl, hv⟩ := hr
   simp only [Ks.cells, V.RepL]
   exact ⟨v, [], rfl, (K.leaf_rep k x v).1 hv, rfl⟩
 | .cons k (.cons k' r), x, l, hr => by
   simp only [RowVals] at hr
   obtain ⟨v, vs, rfl, hv, hvs⟩ := hr
   simp only [Ks.cells, V.RepL]
   exact ⟨v, vs, rfl, (K.leaf_rep k x.1 v).1 hv, RowVals.repL (.cons k' r) x.2 vs hvs⟩
theorem RowVals.of_repL : (r : Ks) → (x : r.Ty) → (l : List Value) → V.RepL w A η h (r.cells x) l → RowVals w A r x l
 | .nil, x, l, hr => by simp only [Ks.cells, V.RepL] at hr; simp only [RowVals]; exact hr
 | .cons k .nil, x, l, hr => by
   simp only [Ks.cells, V.RepL] at hr
   obtain ⟨v, _, rfl, hv, rfl⟩ := hr
   simp only [RowVals]
   exact ⟨v, rfl, (K.leaf_rep k x v).2 hv⟩
 | .cons k (.cons k' r), x, l, hr => by
   simp only [Ks.cells, V.RepL] at hr
   obtain ⟨v, vs, rfl, hv, hvs⟩ := hr
   simp only [RowVals]
   exact ⟨v, vs, rfl, (K.leaf_rep k x.1 v).2 hv, RowVals.of_repL (.cons k' r) x.2 vs hvs⟩
theorem RowVals.close (r : Ks) (l : List V) (x : r.Ty) (hc : Ks.close r l = some x) {cs : List Value} (hr : V.RepL w A η h l cs) : RowVals w A r x cs :=
 RowVals.of_repL r x cs (Ks.close_repL r l x hc cs hr)
theorem str_append (x y : List UInt8) : (⟨x.toArray⟩ : ByteArray) ++ ⟨y.toArray⟩ = ⟨(x ++ y).toArray⟩ := by
 apply ByteArray.ext
 rw [ByteArray.data_append]
 simp
theorem isnil0_run (henv : EnvOk P E) (hok : HeapOk gl w A η h) {t : TypeId} {ti : TI} (ht : E.τ t = some ti) {x y : V} {c d : Value} (hx : V.Rep w A η h x c) (hy : V.Rep w A η h y d) {S : Type} {k : Bool → Option S} {s : S}
  (hv : isnil0 ti.tk h x y k = some s) :
  ∃ b, (∀ (S : Type) (k : Bool → Option S), isnil0 ti.tk h x y k = k b) ∧ (Op.equal t c d).run P w = .ok b w ∧ (c ≠ .nilIface ∨ d ≠ .nilIface) ∧ (∀ cs, c ≠ .agg cs) ∧
    (∀ k n, c ≠ .int k n) ∧ (∀ k n, c ≠ .float k n) ∧ (∀ k n m, c ≠ .complex k n m) ∧ (∀ s, c ≠ .string s) := by
 have own : ∀ {i : Nat} {u : Value} {r : Ks} {z : r.Ty} {zs : List r.Ty} {fz : Bool}, h i = some (.arr r (z :: zs) fz) → V.Rep w A η h (.own i) u → ∃ ad n cap, u = .slice (some ad) n cap := by
  intro i u r z zs fz hi hu
  simp only [V.Rep, OwnRep, hi] at hu
  rcases hu with ⟨_, h2, _⟩ | ⟨b, cap, c, T, _, h3, _⟩
  ·cases h2
  ·exact ⟨_, _, _, h3⟩
 have sl : ∀ {u : Value} {r : Ks} {z : r.Ty} {zs : List r.Ty}, V.Rep w A η h (.sl r (z :: zs)) u → ∃ ad n cap, u = .slice (some ad) n cap := by
  intro u r z zs hu
  simp only [V.Rep, K.Rep] at hu
  obtain ⟨ad, cap, rfl, h2, h3, _⟩ := hu
  cases ad with
  | some ad => exact ⟨_, _, _, rfl⟩
  | none => have := h3 rfl; simp at h2; omega
 unfold isnil0 at hv
 split at hv
 all_goals first
  | (cases hv; done)
  | skip
 case h_1 hk => simp only [V.Rep] at hx hy; subst hx hy; exact ⟨true, fun _ _ => by simp only [isnil0, hk], by rw [equal_step, Op.equalIn]; simp [run_underlying (tk_slice henv ht hk)], by simp⟩
 case h_2 hk => obtain ⟨e, hu⟩ := tk_ptr henv ht hk; simp only [V.Rep] at hx hy; subst hx hy; exact ⟨true, fun _ _ => by simp only [isnil0, hk], by rw [equal_step, Op.equalIn]; simp [run_underlying hu], by simp⟩
 case h_3 hk => obtain ⟨e, f, g, hu⟩ := tk_func henv ht hk; simp only [V.Rep] at hx hy; subst hx hy; exact ⟨true, fun _ _ => by simp only [isnil0, hk], by rw [equal_step, Op.equalIn]; simp [run_underlying hu], by simp⟩
 case h_4 hk => obtain ⟨e, hu⟩ := tk_map henv ht hk; simp only [V.Rep] at hx hy; subst hx hy; exact ⟨true, fun _ _ => by simp only [isnil0, hk], by rw [equal_step, Op.equalIn]; simp [run_underlying hu], by simp⟩
 case h_5 hk => obtain ⟨e, hu⟩ := tk_iface henv ht hk; simp only [V.Rep] at hx hy; subst hx; obtain ⟨u, rfl, _⟩ := hy; exact ⟨false, fun _ _ => by simp only [isnil0, hk], by rw [equal_step, Op.equalIn]; simp [run_underlying hu], by simp⟩
 case h_6 hk => obtain ⟨e, hu⟩ := tk_iface henv ht hk; simp only [V.Rep] at hx hy; subst hy; obtain ⟨u, rfl, _⟩ := hx; exact ⟨false, fun _ _ => by simp only [isnil0, hk], by rw [equal_step, Op.equalIn]; simp [run_underlying hu], by simp⟩
 case h_7 hk => obtain ⟨e, hu⟩ := tk_ptr henv ht hk; simp only [V.Rep] at hx hy; subst hx; obtain ⟨u, _, rfl⟩ := hy; exact ⟨false, fun _ _ => by simp only [isnil0, hk], by rw [equal_step, Op.equalIn]; simp [run_underlying hu], by simp⟩
 case h_8 hk => obtain ⟨e, hu⟩ := tk_ptr henv ht hk; simp only [V.Rep] at hx hy; subst hy; obtain ⟨u, _, rfl⟩ := hx; exact ⟨false, fun _ _ => by simp only [isnil0, hk], by rw [equal_step, Op.equalIn]; simp [run_underlying hu], by simp⟩
 case h_9 hk => obtain ⟨e, f, g, hu⟩ := tk_func henv ht hk; simp only [V.Rep] at hx hy; subst hx; obtain ⟨u, _, rfl, _⟩ := hy; exact ⟨false, fun _ _ => by simp only [isnil0, hk], by rw [equal_step, Op.equalIn]; simp [run_underlying hu], by simp⟩
 case h_10 hk => obtain ⟨e, f, g, hu⟩ := tk_func henv ht hk; simp only [V.Rep] at hx hy; subst hy; obtain ⟨u, _, rfl, _⟩ := hx; exact ⟨false, fun _ _ => by simp only [isnil0, hk], by rw [equal_step, Op.equalIn]; simp [run_underlying hu], by simp⟩
 case h_11 hk => obtain ⟨e, hu⟩ := tk_map henv ht hk; simp only [V.Rep] at hx hy; subst hx; obtain ⟨u, _, rfl⟩ := hy; exact ⟨false, fun _ _ => by simp only [isnil0, hk], by rw [equal_step, Op.equalIn]; simp [run_underlying hu], by simp⟩
 case h_12 hk => obtain ⟨e, hu⟩ := tk_map henv ht hk; simp only [V.Rep] at hx hy; subst hy; obtain ⟨u, _, rfl⟩ := hx; exact ⟨false, fun _ _ => by simp only [isnil0, hk], by rw [equal_step, Op.equalIn]; simp [run_underlying hu], by simp⟩
 case h_13 hk =>
  split at hv
  ·cases hv
  ·obtain ⟨ad, n, cap, rfl⟩ := sl hx
   simp only [V.Rep] at hy; subst hy
   exact ⟨false, fun _ _ => by simp only [isnil0, hk], by rw [equal_step, Op.equalIn]; simp [run_underlying (tk_slice henv ht hk)], by simp⟩
 case h_14 hk =>
  split at hv
  ·cases hv
  ·obtain ⟨ad, n, cap, rfl⟩ := sl hy
   simp only [V.Rep] at hx; subst hx
   exact ⟨false, fun _ _ => by simp only [isnil0, hk], by rw [equal_step, Op.equalIn]; simp [run_underlying (tk_slice henv ht hk)], by simp⟩
 case h_15 hk =>
  split at hv
  ·rename_i hi
   split at hv
   ·cases hv
   ·obtain ⟨ad, n, cap, rfl⟩ := own hi hx
    simp only [V.Rep] at hy; subst hy
    exact ⟨false, fun _ _ => by simp only [isnil0, hk, hi], by rw [equal_step, Op.equalIn]; simp [run_underlying (tk_slice henv ht hk)], by simp⟩
  ·cases hv
 case h_16 hk =>
  split at hv
  ·rename_i hi
   split at hv
   ·cases hv
   ·obtain ⟨ad, n, cap, rfl⟩ := own hi hy
    simp only [V.Rep] at hx; subst hx
    exact ⟨false, fun _ _ => by simp only [isnil0, hk, hi], by rw [equal_step, Op.equalIn]; simp [run_underlying (tk_slice henv ht hk)], by simp⟩
  ·cases hv
theorem V.isEmp_of {x : V} (h : x.isEmp = true) : ∃ r z, x = .emp r z := by
 cases x <;> simp [V.isEmp] at h
 exact ⟨_, _, rfl⟩
theorem V.isNilsl_of {x : V} (h : x.isNilsl = true) : x = .nilsl := by
 cases x <;> simp [V.isNilsl] at h
 rfl
theorem TK.isSlice_of {x : TK} (h : x.isSlice = true) : x = .slice := by
 cases x <;> simp [TK.isSlice] at h
 rfl
theorem isnil_run (henv : EnvOk P E) (hok : HeapOk gl w A η h) {t : TypeId} {ti : TI} (ht : E.τ t = some ti) {x y : V} {c d : Value} (hx : V.Rep w A η h x c) (hy : V.Rep w A η h y d) {S : Type} {k : Bool → Option S} {s : S}
  (hv : isnil ti.tk h x y k = some s) :
  ∃ b, (∀ (S : Type) (k : Bool → Option S), isnil ti.tk h x y k = k b) ∧ (Op.equal t c d).run P w = .ok b w ∧ (c ≠ .nilIface ∨ d ≠ .nilIface) ∧ (∀ cs, c ≠ .agg cs) ∧
    (∀ k n, c ≠ .int k n) ∧ (∀ k n, c ≠ .float k n) ∧ (∀ k n m, c ≠ .complex k n m) ∧ (∀ s, c ≠ .string s) := by
 unfold isnil at hv
 cases hc : (ti.tk.isSlice && ((x.isEmp && y.isNilsl) || (x.isNilsl && y.isEmp))) with
 | false =>
   rw [hc, cond_false] at hv
   obtain ⟨b, h1, h2⟩ := isnil0_run henv hok ht hx hy hv
   exact ⟨b, fun S k => by unfold isnil; rw [hc, cond_false]; exact h1 S k, h2⟩
 | true =>
   have e : ∀ (S : Type) (k : Bool → Option S), isnil ti.tk h x y k = k false := fun S k => by unfold isnil; rw [hc, cond_true]
   simp only [Bool.and_eq_true, Bool.or_eq_true] at hc
   obtain ⟨hk, ⟨h1, h2⟩ | ⟨h1, h2⟩⟩ := hc
   ·obtain ⟨r, z, rfl⟩ := V.isEmp_of h1
    have := V.isNilsl_of h2; subst this
    simp only [V.Rep] at hx hy; subst hy
    obtain ⟨ad, cap, rfl, _⟩ := hx
    exact ⟨false, e, by rw [equal_step, Op.equalIn]; simp [run_underlying (tk_slice henv ht (TK.isSlice_of hk))], by simp⟩
   ·obtain ⟨r, z, rfl⟩ := V.isEmp_of h2
    have := V.isNilsl_of h1; subst this
    simp only [V.Rep] at hx hy; subst hx
    obtain ⟨ad, cap, rfl, _⟩ := hy
    exact ⟨false, e, by rw [equal_step, Op.equalIn]; simp [run_underlying (tk_slice henv ht (TK.isSlice_of hk))], by simp⟩
theorem vbin_nil {u v : V} (x1 : ∀ (k : IntKind) (a : Int) (k' : IntKind) (b : Int), u = .int k a → v = .int k' b → False) (x2 : ∀ (a b : List UInt8), u = .str a → v = .str b → False)
  (x3 : ∀ (a b : Bool), u = .bool a → v = .bool b → False) (x4 : ∀ (l m : List V), u = .agg l → v = .agg m → False) (ti : TI) (h : Nat → Option Ob) {S : Type} (kk : V → Option S) :
  vbin ti .eql h u v kk = isnil ti.tk h u v (fun b => kk (.bool b)) ∧ vbin ti .neq h u v kk = isnil ti.tk h u v fun b => kk (.bool (!b)) := by
 constructor
 all_goals
  unfold vbin
  split
  ·exact (x1 _ _ _ _ rfl rfl).elim
  ·exact (x2 _ _ rfl rfl).elim
  ·exact (x3 _ _ rfl rfl).elim
  ·exact (x4 _ _ rfl rfl).elim
  ·rfl
theorem run_eqs {t : TypeId} {c d : Value} {b : Bool} (hb : (Op.equal t c d).run P w = .ok b w) (n1 : ∀ k n, c ≠ .int k n) (n2 : ∀ k n, c ≠ .float k n) (n3 : ∀ k n m, c ≠ .complex k n m) (n4 : ∀ s, c ≠ .string s) :
  (binOp .eql t c d).run P w = .ok (.bool b) w ∧ (binOp .neq t c d).run P w = .ok (.bool (!b)) w := by
 constructor
 ·unfold binOp
  split <;> first | exact absurd rfl (n1 _ _) | exact absurd rfl (n2 _ _) | exact absurd rfl (n3 _ _ _) | exact absurd rfl (n4 _) | contradiction | (simp [hb]; done)
 ·unfold binOp
  split <;> first | exact absurd rfl (n1 _ _) | exact absurd rfl (n2 _ _) | exact absurd rfl (n3 _ _ _) | exact absurd rfl (n4 _) | contradiction | (simp [hb]; done)
theorem bin_yields (henv : EnvOk P E) (hgl : E.gl = gl) (hs : SOk gl w A η fr h a.tmps) {o : Oper} {op : BinOp} {t yt : TypeId} {x y : Operand} (ho : o.op = .binOp op t x y yt) (hv : effBin E fr h kk op t x y = some r) :
  Goal P gl m w A η h a o fun S kk => effBin E fr h kk op t x y := by
 unfold effBin at hv
 split at hv
 ·rename_i ti u v h1 hx hy
  have rx := (ev_rep hgl hs hx).1
  have ry := (ev_rep hgl hs hy).1
  cases hn : nilnil ti u v y with
  | true =>
    rw [hn, cond_true] at hv
    unfold nilnil at hn
    split at hn
    case h_2 => cases hn
    case h_1 hk =>
    rename_i _ _ _ _
    simp only [V.Rep] at rx ry
    obtain ⟨e, hu⟩ := tk_iface henv h1 hk
    have hg : (eqGuard op t x (.const .nilIface) (a.eval x) (a.eval (.const .nilIface))).run P w = .ok () w := by
     unfold eqGuard; rw [rx, ry]; cases op <;> simp
    rw [rx, ry] at hg
    have hq : (Op.equal t .nilIface .nilIface).run P w = .ok true w := by rw [equal_step, Op.equalIn]; simp [run_underlying hu]
    have h2 := run_eqs (P := P) (w := w) hq (by simp) (by simp) (by simp) (by simp)
    cases op <;> dsimp only [effNilnil] at hv <;> first | (cases hv; done) | skip
    ·exact ⟨.bool true, [], fun S kk => by simp only [effBin, h1, hx, hy, nilnil, hk, cond_true, effNilnil], .pure hs (c := .bool true) (by simp [execOp, ho, hg, rx, ry, h2.1]) (by simp [V.Rep]) (by simp [V.ids])⟩
    ·exact ⟨.bool false, [], fun S kk => by simp only [effBin, h1, hx, hy, nilnil, hk, cond_true, effNilnil], .pure hs (c := .bool false) (by simp [execOp, ho, hg, rx, ry, h2.2]) (by simp [V.Rep]) (by simp [V.ids])⟩
  | false =>
  rw [hn, cond_false] at hv
  have fin : ∀ (z : V) (c : Value), (∀ (S : Type) (kk : V → Option S), vbin ti op h u v kk = kk z) → (eqGuard op t x y (a.eval x) (a.eval y)).run P w = .ok () w → (binOp op t (a.eval x) (a.eval y)).run P w = .ok c w →
    V.Rep w A η h z c → z.ids = [] → Goal P gl m w A η h a o fun S kk => effBin E fr h kk op t x y :=
   fun z c hk hg hb hr hi => ⟨z, [], fun S kk => by simp only [effBin, h1, hx, hy, hn, cond_false]; exact hk _ _, .pure hs (c := c) (by simp [execOp, ho, hg, hb]) hr (by simp [hi])⟩
  unfold vbin at hv
  split at hv
  ·
   rename_i k p k' q
   simp only [V.Rep] at rx ry
   have hg : (eqGuard op t x y (a.eval x) (a.eval y)).run P w = .ok () w := guard_plain (by simp [rx]) (by simp [rx])
   by_cases hsh : op = .shl ∨ op = .shr
   ·have hv' : arith op k p q (fun v => kk v []) = some r := by rcases hsh with rfl | rfl <;> exact hv
    obtain ⟨z, c, hk, hb, hr, hi⟩ := arith_run (P := P) (w := w) (k' := k') (.inl hsh) hv' t
    exact fin z c (fun S kk => by rcases hsh with rfl | rfl <;> (simp only [vbin]; exact hk _ _)) hg (by rw [rx, ry]; exact hb) (hr _ _ _ _) hi
   ·have e : (∀ (S : Type) (kk : V → Option S), vbin ti op h (.int k p) (.int k' q) kk = if k = k' then arith op k p q kk else none) := fun S kk => by
      unfold vbin; cases op <;> first | rfl | exact absurd (by simp) hsh
    have hv' : (if k = k' then arith op k p q (fun v => kk v []) else none) = some r := by
     rw [← e]; unfold vbin; exact hv
    by_cases hk' : k = k'
    ·rw [if_pos hk'] at hv'
     obtain ⟨z, c, hk, hb, hr, hi⟩ := arith_run (P := P) (w := w) (k' := k') (.inr hk') hv' t
     exact fin z c (fun S kk => by rw [e, if_pos hk']; exact hk _ _) hg (by rw [rx, ry]; exact hb) (hr _ _ _ _) hi
    ·rw [if_neg hk'] at hv'; cases hv'
  ·
   rename_i p q
   simp only [V.Rep] at rx ry
   have hg : (eqGuard op t x y (a.eval x) (a.eval y)).run P w = .ok () w := guard_plain (by simp [rx]) (by simp [rx])
   cases op <;> dsimp only at hv <;> first | (cases hv; done) | skip
   case add =>
    by_cases hle : p.length + q.length ≤ bytesMost
    ·refine fin (.str (p ++ q)) (.string ⟨(p ++ q).toArray⟩) (fun S kk => by simp [vbin, hle]) hg ?_ (by simp [V.Rep]) rfl
     rw [rx, ry]
     have h63 : ¬ ((((⟨p.toArray⟩ : ByteArray).size + (⟨q.toArray⟩ : ByteArray).size : Nat) : Int) > IntKind.i64.max) := by
      simp only [ByteArray.size, List.size_toArray, bytesMost] at *
      simp [IntKind.max, IntKind.signed, IntKind.bits]
      omega
     simp only [binOp, Op.stringOp]
     rw [if_neg h63, str_append]
     simp
    ·simp [hle] at hv
   all_goals
    refine fin _ _ (fun S kk => rfl) hg (by rw [rx, ry]; simp only [binOp, Op.stringOp, byteArray_toList]; rfl) ?_ rfl
    simp only [V.Rep]
  ·
   rename_i p q
   simp only [V.Rep] at rx ry
   have hg : (eqGuard op t x y (a.eval x) (a.eval y)).run P w = .ok () w := guard_plain (by simp [rx]) (by simp [rx])
   have eq : ti.tk = .bool → (Op.equal t (.bool p) (.bool q)).run P w = .ok (p == q) w := fun hk => by
    rw [equal_step, Op.equalIn]; simp [run_underlying (tk_bool henv h1 hk)]
   split at hv
   ·rename_i hk
    exact fin (.bool (p == q)) (.bool (p == q)) (fun S kk => by simp only [vbin, hk]) hg (by rw [rx, ry]; simp only [binOp, Sem.run_bind, eq hk, Result.andThen_ok, Sem.run_pure]) (by simp [V.Rep]) rfl
   ·rename_i hk
    exact fin (.bool (!(p == q))) (.bool (!(p == q))) (fun S kk => by simp only [vbin, hk]) hg (by rw [rx, ry]; simp only [binOp, Sem.run_bind, eq hk, Result.andThen_ok, Sem.run_pure]) (by simp [V.Rep]) rfl
   ·cases hv
  ·
   rename_i l n
   split at hv
   ·rename_i he
    simp only [V.Rep] at rx ry
    obtain ⟨cs, ex, hcs⟩ := rx
    obtain ⟨ds, ey, hds⟩ := ry
    obtain ⟨q1, q2⟩ := henv.eqs t ti h1 he
    have hg : (eqGuard op t x y (a.eval x) (a.eval y)).run P w = .ok () w := by
     unfold eqGuard
     rw [ex, ey]
     cases op <;> simp [q2]
    split at hv
    ·rename_i p q hp hq
     have e := q1 w A p q cs ds (RowVals.close _ _ _ hp hcs) (RowVals.close _ _ _ hq hds)
     exact fin (.bool (ti.row.beq p q)) (.bool (ti.row.beq p q)) (fun S kk => by simp only [vbin, if_pos he, hp, hq]) hg (by rw [ex, ey]; simp only [binOp, Sem.run_bind, e, Result.andThen_ok, Sem.run_pure]) (by simp [V.Rep]) rfl
    ·rename_i p q hp hq
     have e := q1 w A p q cs ds (RowVals.close _ _ _ hp hcs) (RowVals.close _ _ _ hq hds)
     exact fin (.bool (!ti.row.beq p q)) (.bool (!ti.row.beq p q)) (fun S kk => by simp only [vbin, if_pos he, hp, hq]) hg (by rw [ex, ey]; simp only [binOp, Sem.run_bind, e, Result.andThen_ok, Sem.run_pure]) (by simp [V.Rep]) rfl
    ·cases hv
   ·cases hv
  ·
   rename_i x1 x2 x3 x4
   cases op <;> dsimp only at hv <;> first | (cases hv; done) | skip
   ·obtain ⟨b, hk, hr, g1, g2, n1, n2, n3, n4⟩ := isnil_run (P := P) henv hs.heap h1 rx ry hv
    exact fin (.bool b) (.bool b) (fun S kk => by rw [(vbin_nil x1 x2 x3 x4 ti h kk).1]; exact hk _ _) (guard_plain g1 (.inl g2)) (run_eqs hr n1 n2 n3 n4).1 (by simp [V.Rep]) rfl
   ·obtain ⟨b, hk, hr, g1, g2, n1, n2, n3, n4⟩ := isnil_run (P := P) henv hs.heap h1 rx ry hv
    exact fin (.bool (!b)) (.bool (!b)) (fun S kk => by rw [(vbin_nil x1 x2 x3 x4 ti h kk).2]; exact hk _ _) (guard_plain g1 (.inl g2)) (run_eqs hr n1 n2 n3 n4).2 (by simp [V.Rep]) rfl
 ·cases hv
end ops
end Vm
namespace Vm
open Go
section rows
variable {P : Program} {E : Env} {gl : Gl} {m : Nat} {w w' : World} {A A' : ASet} {η η' : Nat → Option Nat} {fr : Nat → Option V} {h h' : Nat → Option Ob} {a : Act}
theorem RowVals.length {r : Ks} {x : r.Ty} {l : List Value} (hr : RowVals w A r x l) : l.length = r.len := by
 have := (RowVals.repL (η := fun _ => none) (h := fun _ => none) r x l hr).length
 rw [Ks.cells_length] at this; exact this.symm
theorem RowVals.rep : (r : Ks) → (x : r.Ty) → (l : List Value) → (b o : Nat) → RowVals w A r x l → (∀ (j : Nat) v, l[j]? = some v → CellAt w b (o + j) v) → Ks.Rep w A r x b o
 | .nil, _, _, _, _, _, _ => by simp only [Ks.Rep]
 | .cons k .nil, x, l, b, o, hr, hc => by
   simp only [RowVals] at hr
   obtain ⟨v, rfl, hv⟩ := hr
   simp only [Ks.Rep]
   exact ⟨v, hc 0 v rfl, hv⟩
 | .cons k (.cons k' r), x, l, b, o, hr, hc => by
   simp only [RowVals] at hr
   obtain ⟨v, vs, rfl, hv, hvs⟩ := hr
   simp only [Ks.Rep]
   refine ⟨⟨v, hc 0 v rfl, hv⟩, RowVals.rep (.cons k' r) x.2 vs b (o + 1) hvs fun j u hu => ?_⟩
   have := hc (j + 1) u (by simpa using hu)
   rwa [show o + 1 + j = o + (j + 1) from by omega]
theorem Ks.Rep.vals : (r : Ks) → (x : r.Ty) → (b o : Nat) → Ks.Rep w A r x b o → ∃ l, RowVals w A r x l ∧ ∀ (j : Nat) v, l[j]? = some v → CellAt w b (o + j) v
 | .nil, _, _, _, _ => ⟨[], by simp only [RowVals], by simp⟩
 | .cons k .nil, x, b, o, hr => by
   simp only [Ks.Rep] at hr
   obtain ⟨v, h1, h2⟩ := hr
   refine ⟨[v], by simp only [RowVals]; exact ⟨v, rfl, h2⟩, fun j u hu => ?_⟩
   cases j with
   | zero => simp at hu; subst hu; exact h1
   | succ j => simp at hu
 | .cons k (.cons k' r), x, b, o, hr => by
   simp only [Ks.Rep] at hr
   obtain ⟨⟨v, h1, h2⟩, h3⟩ := hr
   obtain ⟨l, h4, h5⟩ := Ks.Rep.vals (.cons k' r) x.2 b (o + 1) h3
   refine ⟨v :: l, by simp only [RowVals]; exact ⟨v, l, rfl, h2, h4⟩, fun j u hu => ?_⟩
   cases j with
   | zero => simp at hu; subst hu; exact h1
   | succ j => have := h5 j u (by simpa using hu); rwa [show o + (j + 1) = o + 1 + j from by omega]
def RowsIn (w : World) (A : ASet) (r : Ks) : List r.Ty → List Value → Prop
 | [], l => l = []
 | x :: xs, l => ∃ a b, l = a ++ b ∧ RowVals w A r x a ∧ RowsIn w A r xs b
theorem RowsIn.length {r : Ks} : {xs : List r.Ty} → {l : List Value} → RowsIn w A r xs l → l.length = xs.length * r.len
 | [], _, hr => by simp only [RowsIn] at hr; subst hr; simp
 | x :: xs, l, hr => by
   simp only [RowsIn] at hr
   obtain ⟨a, b, rfl, h1, h2⟩ := hr
   simp only [List.length_append, h1.length, h2.length, List.length_cons, Nat.succ_mul]; omega
theorem RowsIn.append {r : Ks} : {xs ys : List r.Ty} → {l m : List Value} → RowsIn w A r xs l → RowsIn w A r ys m → RowsIn w A r (xs ++ ys) (l ++ m)
 | [], ys, l, m, h1, h2 => by simp only [RowsIn] at h1; subst h1; simpa using h2
 | x :: xs, ys, l, m, h1, h2 => by
   simp only [RowsIn] at h1
   obtain ⟨a, b, rfl, h3, h4⟩ := h1
   simp only [List.cons_append, RowsIn]
   exact ⟨a, b ++ m, by simp, h3, RowsIn.append h4 h2⟩
theorem RowsIn.replicate {r : Ks} {x : r.Ty} {a : List Value} (hx : RowVals w A r x a) : (n : Nat) → RowsIn w A r (List.replicate n x) (List.replicate n a).flatten
 | 0 => by simp [RowsIn]
 | n + 1 => by simp only [List.replicate_succ, List.flatten_cons, RowsIn]; exact ⟨a, _, rfl, hx, RowsIn.replicate hx n⟩
theorem RowsIn.mono (hA : ∀ b, A b → A' b ∧ w'.heap[b]? = w.heap[b]?) {r : Ks} : {xs : List r.Ty} → {l : List Value} → RowsIn w A r xs l → RowsIn w' A' r xs l
 | [], _, hr => hr
 | x :: xs, l, hr => by
   simp only [RowsIn] at hr ⊢
   obtain ⟨a, b, rfl, h1, h2⟩ := hr
   exact ⟨a, b, rfl, RowVals.mono hA r x a h1, RowsIn.mono hA h2⟩
theorem RowsIn.set {r : Ks} {y : r.Ty} {c : List Value} (hy : RowVals w A r y c) : {xs : List r.Ty} → {l : List Value} → (i : Nat) → i < xs.length → RowsIn w A r xs l → RowsIn w A r (xs.set i y) (l.take (i * r.len) ++ (c ++ l.drop (i * r.len + r.len)))
 | [], _, i, hi, _ => by simp at hi
 | x :: xs, l, 0, hi, hr => by
   simp only [RowsIn] at hr
   obtain ⟨a, b, rfl, h1, h2⟩ := hr
   simp only [List.set_cons_zero, RowsIn]
   refine ⟨c, b, ?_, hy, h2⟩
   have := h1.length
   simp [← this]
 | x :: xs, l, i + 1, hi, hr => by
   simp only [RowsIn] at hr
   obtain ⟨a, b, rfl, h1, h2⟩ := hr
   simp only [List.set_cons_succ, RowsIn]
   refine ⟨a, b.take (i * r.len) ++ (c ++ b.drop (i * r.len + r.len)), ?_, h1, RowsIn.set hy i (by simpa using hi) h2⟩
   have hl := h1.length
   have e1 : (i + 1) * r.len = a.length + i * r.len := by rw [Nat.succ_mul, hl]; omega
   have e2 : a.length + i * r.len + r.len = a.length + (i * r.len + r.len) := by omega
   rw [e1, e2, List.take_length_add_append, List.drop_length_add_append, List.append_assoc]
theorem RowsIn.rep {r : Ks} : {xs : List r.Ty} → {l : List Value} → {b o : Nat} → RowsIn w A r xs l → (∀ (j : Nat) v, l[j]? = some v → CellAt w b (o + j) v) → ∀ (i : Nat) x, xs[i]? = some x → Ks.Rep w A r x b (o + i * r.len)
 | [], _, _, _, _, _, i, x, hx => by simp at hx
 | y :: xs, l, b, o, hr, hc, i, x, hx => by
   simp only [RowsIn] at hr
   obtain ⟨a, c, rfl, h1, h2⟩ := hr
   have hl := h1.length
   cases i with
   | zero =>
     simp at hx; subst hx
     simp only [Nat.zero_mul, Nat.add_zero]
     exact RowVals.rep r y a b o h1 fun j v hj => hc j v (by rw [List.getElem?_append_left (List.getElem?_eq_some_iff.1 hj).1]; exact hj)
   | succ i =>
     have := RowsIn.rep (o := o + r.len) h2 (fun j v hj => by
      have := hc (a.length + j) v (by rw [List.getElem?_append_right (by omega)]; simpa using hj)
      rwa [hl, ← Nat.add_assoc] at this) i x (by simpa using hx)
     rwa [show o + (i + 1) * r.len = o + r.len + i * r.len from by rw [Nat.succ_mul]; omega]
theorem RowsIn.of_rep {r : Ks} : {xs : List r.Ty} → {b o : Nat} → (∀ (i : Nat) x, xs[i]? = some x → Ks.Rep w A r x b (o + i * r.len)) → ∃ l, RowsIn w A r xs l ∧ ∀ (j : Nat) v, l[j]? = some v → CellAt w b (o + j) v
 | [], _, _, _ => ⟨[], by simp only [RowsIn], by simp⟩
 | x :: xs, b, o, hr => by
   obtain ⟨a, h1, h2⟩ := Ks.Rep.vals r x b o (by have := hr 0 x rfl; simpa using this)
   obtain ⟨l, h3, h4⟩ := RowsIn.of_rep (o := o + r.len) (xs := xs) fun i y hy => by
    have := hr (i + 1) y (by simpa using hy)
    rwa [show o + (i + 1) * r.len = o + r.len + i * r.len from by rw [Nat.succ_mul]; omega] at this
   refine ⟨a ++ l, by simp only [RowsIn]; exact ⟨a, l, rfl, h1, h3⟩, fun j v hj => ?_⟩
   rw [List.getElem?_append] at hj
   split at hj
   ·exact h2 j v hj
   ·have := h4 _ v hj
    rw [h1.length] at this
    have hlt := h1.length
    rwa [show o + r.len + (j - r.len) = o + j from by omega] at this
theorem RowsIn.cells_of {r : Ks} {xs : List r.Ty} {l : List Value} (hr : RowsIn w A r xs l) : ∀ v ∈ l, v.oneCell' = true := by
 have leaf : ∀ (k : K) (x : k.Ty) (v : Value), K.Rep w A k x v → v.oneCell' = true := by
  intro k x v hv
  cases k with
  | int k => simp only [K.Rep] at hv; subst hv; rfl
  | bool => simp only [K.Rep] at hv; subst hv; rfl
  | str => simp only [K.Rep] at hv; subst hv; rfl
  | sl r => simp only [K.Rep] at hv; obtain ⟨ad, cap, rfl, _⟩ := hv; rfl
 have row : (r : Ks) → (x : r.Ty) → (l : List Value) → RowVals w A r x l → ∀ v ∈ l, v.oneCell' = true := by
  intro r
  exact Ks.rec (motive_1 := fun _ => True) (motive_2 := fun r => ∀ (x : r.Ty) (l : List Value), RowVals w A r x l → ∀ v ∈ l, v.oneCell' = true) (fun _ => trivial) trivial trivial (fun _ _ => trivial)
   (fun x l hl v hv => by simp only [RowVals] at hl; subst hl; cases hv)
   (fun k r _ ih x l hl v hv => by
     cases r with
     | nil => simp only [RowVals] at hl; obtain ⟨u, rfl, hu⟩ := hl; simp at hv; subst hv; exact leaf k x _ hu
     | cons k' r =>
       simp only [RowVals] at hl
       obtain ⟨u, us, rfl, hu, hus⟩ := hl
       rcases List.mem_cons.1 hv with rfl | hv
       ·exact leaf k x.1 _ hu
       ·exact ih x.2 us hus v hv) r
 induction xs generalizing l with
 | nil => simp only [RowsIn] at hr; subst hr; simp
 | cons x xs ih =>
   simp only [RowsIn] at hr
   obtain ⟨a, b, rfl, h1, h2⟩ := hr
   intro v hv
   rcases List.mem_append.1 hv with hv | hv
   ·exact row r x a h1 v hv
   ·exact ih h2 v hv
theorem own_sl {i : Nat} {r : Ks} {xs : List r.Ty} {fz : Bool} (hok : HeapOk gl w A η h) (hi : h i = some (.arr r xs fz)) {c : Value} (hr : V.Rep w A η h (.own i) c) (hA : ∀ b, A b → A' b) (hAi : ∀ b, η i = some b → A' b) :
  K.Rep w A' (.sl r) xs c := by
 simp only [V.Rep, OwnRep, hi] at hr
 simp only [K.Rep]
 rcases hr with ⟨h1, h2, ad, h3⟩ | ⟨b, cap, cs, T, h1, h2, h3, h4, h5⟩
 ·exact ⟨ad, 0, by rw [h3, h2]; rfl, by simp [h2], fun _ => rfl, fun ad had hc => absurd hc (by simp)⟩
 ·refine ⟨some ⟨b, 0, none⟩, cap, h2, h3, fun e => (by cases e), fun ad had _ => ?_⟩
  cases had
  refine ⟨rfl, hAi b h1, fun k x hx => ?_⟩
  rcases hok.ob i _ hi with ⟨h6, _⟩ | ⟨b', c', T', h6, h7, h8, h9, h10⟩
  ·rw [h1] at h6; cases h6
  ·rw [h1] at h6; cases h6
   rw [Nat.zero_add]
   exact Ks.Rep.mono (fun b hb => ⟨hA b hb, rfl⟩) r x b _ rfl (h10 k x hx)
theorem win_sl {i l n wd : Nat} {r : Ks} {xs : List r.Ty} {fz : Bool} (hok : HeapOk gl w A η h) (hi : h i = some (.arr r xs fz)) {c : Value} (hr : V.Rep w A η h (.win i wd l n) c) (hw : wd = r.len) (hl : l + n ≤ xs.length) (hA : ∀ b, A b → A' b) (hAi : ∀ b, η i = some b → A' b) :
  K.Rep w A' (.sl r) ((xs.drop l).take n) c := by
 simp only [V.Rep] at hr
 simp only [K.Rep]
 obtain ⟨b, o, cap, h1, h2, h3, ho⟩ := hr
 have hlen : ((xs.drop l).take n).length = n := by rw [List.length_take, List.length_drop]; omega
 refine ⟨some ⟨b, o, none⟩, cap, by rw [hlen]; exact h2, by rw [hlen]; exact h3, fun e => (by cases e), fun ad had _ => ?_⟩
 cases had
 refine ⟨rfl, hAi b h1, fun k x hx => ?_⟩
 rcases hok.ob i _ hi with ⟨h6, _⟩ | ⟨b', c', T', h6, h7, h8, h9, h10⟩
 ·rw [h1] at h6; cases h6
 ·rw [h1] at h6; cases h6
  have hk : k < n := by
   have := (List.getElem?_eq_some_iff.1 hx).1
   rw [hlen] at this; exact this
  have hx' : xs[l + k]? = some x := by
   rw [List.getElem?_take_of_lt hk, List.getElem?_drop] at hx; exact hx
  have := h10 (l + k) x hx'
  show Ks.Rep w A' r x b (o + k * r.len)
  rw [ho (by omega), hw, ← Nat.add_mul]
  exact Ks.Rep.mono (fun b hb => ⟨hA b hb, rfl⟩) r x b _ rfl this
mutual
theorem V.plain_rep (hok : HeapOk gl w A η h) : (v v' : V) → (is : List Nat) → v.plain h = some (v', is) → (c : Value) → V.Rep w A η h v c →
  (∀ A', (∀ b, A b → A' b) → (∀ i ∈ is, ∀ b, η i = some b → A' b) → V.Rep w A' η h v' c) ∧ (∀ i ∈ v'.ids, i ∈ v.ids) ∧ (∀ i ∈ is, i ∈ v.ids ∧ ∃ r xs fz, h i = some (.arr r xs fz))
 | .own i, v', is, hp, c, hr => by
   simp only [V.plain] at hp
   split at hp
   ·rename_i r xs fz hi
    cases hp
    exact ⟨fun A' h1 h2 => by simp only [V.Rep]; exact own_sl hok hi hr h1 (h2 i (by simp)), by simp [V.ids], fun j hj => by simp at hj; subst hj; exact ⟨by simp [V.ids], r, xs, fz, hi⟩⟩
   ·cases hp
 | .agg l, v', is, hp, c, hr => by
   simp only [V.plain] at hp
   split at hp
   ·rename_i l' is' hl
    cases hp
    simp only [V.Rep] at hr
    obtain ⟨cs, rfl, hcs⟩ := hr
    obtain ⟨g1, g2, g3⟩ := V.plainL_rep hok l l' _ hl _ hcs
    exact ⟨fun A' h1 h2 => by simp only [V.Rep]; exact ⟨cs, rfl, g1 A' h1 h2⟩, by simpa [V.ids] using g2, by simpa [V.ids] using g3⟩
   ·cases hp
 | .tuple l, v', is, hp, c, hr => by
   simp only [V.plain] at hp
   split at hp
   ·rename_i l' is' hl
    cases hp
    simp only [V.Rep] at hr
    obtain ⟨cs, rfl, hcs⟩ := hr
    obtain ⟨g1, g2, g3⟩ := V.plainL_rep hok l l' _ hl _ hcs
    exact ⟨fun A' h1 h2 => by simp only [V.Rep]; exact ⟨cs, rfl, g1 A' h1 h2⟩, by simpa [V.ids] using g2, by simpa [V.ids] using g3⟩
   ·cases hp
 | .fn f a b, v', is, hp, c, hr => by
   simp only [V.plain] at hp
   split at hp
   ·rename_i a' is' b' js' ha hb
    cases hp
    simp only [V.Rep] at hr
    obtain ⟨x, y, rfl, hx, hy⟩ := hr
    obtain ⟨g1, g2, g3⟩ := V.plainL_rep hok a a' _ ha _ hx
    obtain ⟨g4, g5, g6⟩ := V.plainL_rep hok b b' _ hb _ hy
    refine ⟨fun A' h1 h2 => by simp only [V.Rep]; exact ⟨x, y, rfl, g1 A' h1 (fun i hi => h2 i (by simp [hi])), g4 A' h1 (fun i hi => h2 i (by simp [hi]))⟩, fun i hi => ?_, fun i hi => ?_⟩
    ·simp only [V.ids, List.mem_append] at hi ⊢; exact hi.imp (g2 i) (g5 i)
    ·simp only [V.ids, List.mem_append] at hi ⊢
     rcases hi with hi | hi
     ·exact ⟨.inl (g3 i hi).1, (g3 i hi).2⟩
     ·exact ⟨.inr (g6 i hi).1, (g6 i hi).2⟩
   ·cases hp
 | .int k n, v', is, hp, c, hr => by simp only [V.plain, Option.some.injEq, Prod.mk.injEq] at hp; obtain ⟨rfl, rfl⟩ := hp; exact ⟨fun A' h1 _ => V.Rep.mono (I := fun _ => True) ⟨fun b hb => ⟨h1 b hb, rfl⟩, fun _ _ => rfl, fun _ _ _ h => h⟩ _ _ (fun _ _ => trivial) hr, fun _ h => h, by simp⟩
 | .bool b, v', is, hp, c, hr => by simp only [V.plain, Option.some.injEq, Prod.mk.injEq] at hp; obtain ⟨rfl, rfl⟩ := hp; exact ⟨fun A' h1 _ => V.Rep.mono (I := fun _ => True) ⟨fun b hb => ⟨h1 b hb, rfl⟩, fun _ _ => rfl, fun _ _ _ h => h⟩ _ _ (fun _ _ => trivial) hr, fun _ h => h, by simp⟩
 | .str s, v', is, hp, c, hr => by simp only [V.plain, Option.some.injEq, Prod.mk.injEq] at hp; obtain ⟨rfl, rfl⟩ := hp; exact ⟨fun A' h1 _ => V.Rep.mono (I := fun _ => True) ⟨fun b hb => ⟨h1 b hb, rfl⟩, fun _ _ => rfl, fun _ _ _ h => h⟩ _ _ (fun _ _ => trivial) hr, fun _ h => h, by simp⟩
 | .sl r xs, v', is, hp, c, hr => by simp only [V.plain, Option.some.injEq, Prod.mk.injEq] at hp; obtain ⟨rfl, rfl⟩ := hp; exact ⟨fun A' h1 _ => V.Rep.mono (I := fun _ => True) ⟨fun b hb => ⟨h1 b hb, rfl⟩, fun _ _ => rfl, fun _ _ _ h => h⟩ _ _ (fun _ _ => trivial) hr, fun _ h => h, by simp⟩
 | .emp _ _, v', is, hp, c, hr => by simp only [V.plain, Option.some.injEq, Prod.mk.injEq] at hp; obtain ⟨rfl, rfl⟩ := hp; exact ⟨fun A' h1 _ => V.Rep.mono (I := fun _ => True) ⟨fun b hb => ⟨h1 b hb, rfl⟩, fun _ _ => rfl, fun _ _ _ h => h⟩ _ _ (fun _ _ => trivial) hr, fun _ h => h, by simp⟩
 | .nilsl, v', is, hp, c, hr => by simp only [V.plain, Option.some.injEq, Prod.mk.injEq] at hp; obtain ⟨rfl, rfl⟩ := hp; exact ⟨fun A' h1 _ => V.Rep.mono (I := fun _ => True) ⟨fun b hb => ⟨h1 b hb, rfl⟩, fun _ _ => rfl, fun _ _ _ h => h⟩ _ _ (fun _ _ => trivial) hr, fun _ h => h, by simp⟩
 | .nilp, v', is, hp, c, hr => by simp only [V.plain, Option.some.injEq, Prod.mk.injEq] at hp; obtain ⟨rfl, rfl⟩ := hp; exact ⟨fun A' h1 _ => V.Rep.mono (I := fun _ => True) ⟨fun b hb => ⟨h1 b hb, rfl⟩, fun _ _ => rfl, fun _ _ _ h => h⟩ _ _ (fun _ _ => trivial) hr, fun _ h => h, by simp⟩
 | .nilfn, v', is, hp, c, hr => by simp only [V.plain, Option.some.injEq, Prod.mk.injEq] at hp; obtain ⟨rfl, rfl⟩ := hp; exact ⟨fun A' h1 _ => V.Rep.mono (I := fun _ => True) ⟨fun b hb => ⟨h1 b hb, rfl⟩, fun _ _ => rfl, fun _ _ _ h => h⟩ _ _ (fun _ _ => trivial) hr, fun _ h => h, by simp⟩
 | .nilif, v', is, hp, c, hr => by simp only [V.plain, Option.some.injEq, Prod.mk.injEq] at hp; obtain ⟨rfl, rfl⟩ := hp; exact ⟨fun A' h1 _ => V.Rep.mono (I := fun _ => True) ⟨fun b hb => ⟨h1 b hb, rfl⟩, fun _ _ => rfl, fun _ _ _ h => h⟩ _ _ (fun _ _ => trivial) hr, fun _ h => h, by simp⟩
 | .nilmap, v', is, hp, c, hr => by simp only [V.plain, Option.some.injEq, Prod.mk.injEq] at hp; obtain ⟨rfl, rfl⟩ := hp; exact ⟨fun A' h1 _ => V.Rep.mono (I := fun _ => True) ⟨fun b hb => ⟨h1 b hb, rfl⟩, fun _ _ => rfl, fun _ _ _ h => h⟩ _ _ (fun _ _ => trivial) hr, fun _ h => h, by simp⟩
 | .undef, v', is, hp, c, hr => by simp only [V.plain, Option.some.injEq, Prod.mk.injEq] at hp; obtain ⟨rfl, rfl⟩ := hp; exact ⟨fun A' h1 _ => V.Rep.mono (I := fun _ => True) ⟨fun b hb => ⟨h1 b hb, rfl⟩, fun _ _ => rfl, fun _ _ _ h => h⟩ _ _ (fun _ _ => trivial) hr, fun _ h => h, by simp⟩
 | .win i w₀ l n, v', is, hp, c, hr => by
   simp only [V.plain] at hp
   split at hp
   ·rename_i r xs fz hi
    split at hp
    ·rename_i hc
     cases hp
     refine ⟨fun A' h1 h2 => by simp only [V.Rep]; exact win_sl hok hi hr hc.1 hc.2 h1 (h2 i (by simp)), by simp [V.ids], fun j hj => by simp at hj; subst hj; exact ⟨by simp [V.ids], r, xs, fz, hi⟩⟩
    ·cases hp
   ·cases hp
 | .ref _ _ _ _, v', is, hp, c, hr => by simp only [V.plain, Option.some.injEq, Prod.mk.injEq] at hp; obtain ⟨rfl, rfl⟩ := hp; exact ⟨fun A' h1 _ => V.Rep.mono (I := fun _ => True) ⟨fun b hb => ⟨h1 b hb, rfl⟩, fun _ _ => rfl, fun _ _ _ h => h⟩ _ _ (fun _ _ => trivial) hr, fun _ h => h, by simp⟩
 | .rod _ _ _, v', is, hp, c, hr => by simp only [V.plain, Option.some.injEq, Prod.mk.injEq] at hp; obtain ⟨rfl, rfl⟩ := hp; exact ⟨fun A' h1 _ => V.Rep.mono (I := fun _ => True) ⟨fun b hb => ⟨h1 b hb, rfl⟩, fun _ _ => rfl, fun _ _ _ h => h⟩ _ _ (fun _ _ => trivial) hr, fun _ h => h, by simp⟩
 | .rodA _ _, v', is, hp, c, hr => by simp only [V.plain, Option.some.injEq, Prod.mk.injEq] at hp; obtain ⟨rfl, rfl⟩ := hp; exact ⟨fun A' h1 _ => V.Rep.mono (I := fun _ => True) ⟨fun b hb => ⟨h1 b hb, rfl⟩, fun _ _ => rfl, fun _ _ _ h => h⟩ _ _ (fun _ _ => trivial) hr, fun _ h => h, by simp⟩
 | .map _, v', is, hp, c, hr => by simp only [V.plain, Option.some.injEq, Prod.mk.injEq] at hp; obtain ⟨rfl, rfl⟩ := hp; exact ⟨fun A' h1 _ => V.Rep.mono (I := fun _ => True) ⟨fun b hb => ⟨h1 b hb, rfl⟩, fun _ _ => rfl, fun _ _ _ h => h⟩ _ _ (fun _ _ => trivial) hr, fun _ h => h, by simp⟩
 | .yld _, v', is, hp, c, hr => by simp only [V.plain, Option.some.injEq, Prod.mk.injEq] at hp; obtain ⟨rfl, rfl⟩ := hp; exact ⟨fun A' h1 _ => V.Rep.mono (I := fun _ => True) ⟨fun b hb => ⟨h1 b hb, rfl⟩, fun _ _ => rfl, fun _ _ _ h => h⟩ _ _ (fun _ _ => trivial) hr, fun _ h => h, by simp⟩
 | .stamp _, v', is, hp, c, hr => by simp only [V.plain, Option.some.injEq, Prod.mk.injEq] at hp; obtain ⟨rfl, rfl⟩ := hp; exact ⟨fun A' h1 _ => V.Rep.mono (I := fun _ => True) ⟨fun b hb => ⟨h1 b hb, rfl⟩, fun _ _ => rfl, fun _ _ _ h => h⟩ _ _ (fun _ _ => trivial) hr, fun _ h => h, by simp⟩
 | .iface _ _, v', is, hp, c, hr => by simp only [V.plain, Option.some.injEq, Prod.mk.injEq] at hp; obtain ⟨rfl, rfl⟩ := hp; exact ⟨fun A' h1 _ => V.Rep.mono (I := fun _ => True) ⟨fun b hb => ⟨h1 b hb, rfl⟩, fun _ _ => rfl, fun _ _ _ h => h⟩ _ _ (fun _ _ => trivial) hr, fun _ h => h, by simp⟩
theorem V.plainL_rep (hok : HeapOk gl w A η h) : (l l' : List V) → (is : List Nat) → V.plainL h l = some (l', is) → (cs : List Value) → V.RepL w A η h l cs →
  (∀ A', (∀ b, A b → A' b) → (∀ i ∈ is, ∀ b, η i = some b → A' b) → V.RepL w A' η h l' cs) ∧ (∀ i ∈ V.idsL l', i ∈ V.idsL l) ∧ (∀ i ∈ is, i ∈ V.idsL l ∧ ∃ r xs fz, h i = some (.arr r xs fz))
 | [], l', is, hp, cs, hr => by
   simp only [V.plainL, Option.some.injEq, Prod.mk.injEq] at hp
   obtain ⟨rfl, rfl⟩ := hp
   simp only [V.RepL] at hr
   exact ⟨fun A' _ _ => by simp only [V.RepL]; exact hr, fun _ h => h, by simp⟩
 | v :: l, l', is, hp, cs, hr => by
   simp only [V.plainL] at hp
   split at hp
   ·rename_i v' is' l'' js' hv hl
    cases hp
    simp only [V.RepL] at hr
    obtain ⟨c, cs, rfl, h1, h2⟩ := hr
    obtain ⟨g1, g2, g3⟩ := V.plain_rep hok v v' _ hv c h1
    obtain ⟨g4, g5, g6⟩ := V.plainL_rep hok l l'' _ hl cs h2
    refine ⟨fun A' h3 h4 => by simp only [V.RepL]; exact ⟨c, cs, rfl, g1 A' h3 (fun i hi => h4 i (by simp [hi])), g4 A' h3 (fun i hi => h4 i (by simp [hi]))⟩, fun i hi => ?_, fun i hi => ?_⟩
    ·simp only [V.idsL, List.mem_append] at hi ⊢; exact hi.imp (g2 i) (g5 i)
    ·simp only [V.idsL, List.mem_append] at hi ⊢
     rcases hi with hi | hi
     ·exact ⟨.inl (g3 i hi).1, (g3 i hi).2⟩
     ·exact ⟨.inr (g6 i hi).1, (g6 i hi).2⟩
   ·cases hp
end
mutual
theorem V.plainP_rep (hok : HeapOk gl w A η h) : (v v' : V) → (is : List Nat) → v.plainP h = some (v', is) → (c : Value) → V.Rep w A η h v c →
  (∀ A', (∀ b, A b → A' b) → (∀ i ∈ is, ∀ b, η i = some b → A' b) → V.Rep w A' η h v' c) ∧ (∀ i ∈ v'.ids, i ∈ v.ids) ∧ (∀ i ∈ is, i ∈ v.ids ∧ ∃ r xs fz, h i = some (.arr r xs fz))
 | .own i, v', is, hp, c, hr => by
   simp only [V.plainP] at hp
   split at hp
   ·rename_i r xs fz hi
    split at hp
    ·cases hp
     exact ⟨fun A' h1 _ => V.Rep.mono (I := fun _ => True) ⟨fun b hb => ⟨h1 b hb, rfl⟩, fun _ _ => rfl, fun _ _ _ h => h⟩ _ _ (fun _ _ => trivial) hr, fun _ h => h, by simp⟩
    cases hp
    exact ⟨fun A' h1 h2 => by simp only [V.Rep]; exact own_sl hok hi hr h1 (h2 i (by simp)), by simp [V.ids], fun j hj => by simp at hj; subst hj; exact ⟨by simp [V.ids], r, xs, fz, hi⟩⟩
   ·cases hp
 | .agg l, v', is, hp, c, hr => by
   simp only [V.plainP] at hp
   split at hp
   ·rename_i l' is' hl
    cases hp
    simp only [V.Rep] at hr
    obtain ⟨cs, rfl, hcs⟩ := hr
    obtain ⟨g1, g2, g3⟩ := V.plainLP_rep hok l l' _ hl _ hcs
    exact ⟨fun A' h1 h2 => by simp only [V.Rep]; exact ⟨cs, rfl, g1 A' h1 h2⟩, by simpa [V.ids] using g2, by simpa [V.ids] using g3⟩
   ·cases hp
 | .tuple l, v', is, hp, c, hr => by
   simp only [V.plainP] at hp
   split at hp
   ·rename_i l' is' hl
    cases hp
    simp only [V.Rep] at hr
    obtain ⟨cs, rfl, hcs⟩ := hr
    obtain ⟨g1, g2, g3⟩ := V.plainLP_rep hok l l' _ hl _ hcs
    exact ⟨fun A' h1 h2 => by simp only [V.Rep]; exact ⟨cs, rfl, g1 A' h1 h2⟩, by simpa [V.ids] using g2, by simpa [V.ids] using g3⟩
   ·cases hp
 | .fn f a b, v', is, hp, c, hr => by
   simp only [V.plainP] at hp
   split at hp
   ·rename_i a' is' b' js' ha hb
    cases hp
    simp only [V.Rep] at hr
    obtain ⟨x, y, rfl, hx, hy⟩ := hr
    obtain ⟨g1, g2, g3⟩ := V.plainLP_rep hok a a' _ ha _ hx
    obtain ⟨g4, g5, g6⟩ := V.plainLP_rep hok b b' _ hb _ hy
    refine ⟨fun A' h1 h2 => by simp only [V.Rep]; exact ⟨x, y, rfl, g1 A' h1 (fun i hi => h2 i (by simp [hi])), g4 A' h1 (fun i hi => h2 i (by simp [hi]))⟩, fun i hi => ?_, fun i hi => ?_⟩
    ·simp only [V.ids, List.mem_append] at hi ⊢; exact hi.imp (g2 i) (g5 i)
    ·simp only [V.ids, List.mem_append] at hi ⊢
     rcases hi with hi | hi
     ·exact ⟨.inl (g3 i hi).1, (g3 i hi).2⟩
     ·exact ⟨.inr (g6 i hi).1, (g6 i hi).2⟩
   ·cases hp
 | .int k n, v', is, hp, c, hr => by simp only [V.plainP, Option.some.injEq, Prod.mk.injEq] at hp; obtain ⟨rfl, rfl⟩ := hp; exact ⟨fun A' h1 _ => V.Rep.mono (I := fun _ => True) ⟨fun b hb => ⟨h1 b hb, rfl⟩, fun _ _ => rfl, fun _ _ _ h => h⟩ _ _ (fun _ _ => trivial) hr, fun _ h => h, by simp⟩
 | .bool b, v', is, hp, c, hr => by simp only [V.plainP, Option.some.injEq, Prod.mk.injEq] at hp; obtain ⟨rfl, rfl⟩ := hp; exact ⟨fun A' h1 _ => V.Rep.mono (I := fun _ => True) ⟨fun b hb => ⟨h1 b hb, rfl⟩, fun _ _ => rfl, fun _ _ _ h => h⟩ _ _ (fun _ _ => trivial) hr, fun _ h => h, by simp⟩
 | .str s, v', is, hp, c, hr => by simp only [V.plainP, Option.some.injEq, Prod.mk.injEq] at hp; obtain ⟨rfl, rfl⟩ := hp; exact ⟨fun A' h1 _ => V.Rep.mono (I := fun _ => True) ⟨fun b hb => ⟨h1 b hb, rfl⟩, fun _ _ => rfl, fun _ _ _ h => h⟩ _ _ (fun _ _ => trivial) hr, fun _ h => h, by simp⟩
 | .sl r xs, v', is, hp, c, hr => by simp only [V.plainP, Option.some.injEq, Prod.mk.injEq] at hp; obtain ⟨rfl, rfl⟩ := hp; exact ⟨fun A' h1 _ => V.Rep.mono (I := fun _ => True) ⟨fun b hb => ⟨h1 b hb, rfl⟩, fun _ _ => rfl, fun _ _ _ h => h⟩ _ _ (fun _ _ => trivial) hr, fun _ h => h, by simp⟩
 | .emp _ _, v', is, hp, c, hr => by simp only [V.plainP, Option.some.injEq, Prod.mk.injEq] at hp; obtain ⟨rfl, rfl⟩ := hp; exact ⟨fun A' h1 _ => V.Rep.mono (I := fun _ => True) ⟨fun b hb => ⟨h1 b hb, rfl⟩, fun _ _ => rfl, fun _ _ _ h => h⟩ _ _ (fun _ _ => trivial) hr, fun _ h => h, by simp⟩
 | .nilsl, v', is, hp, c, hr => by simp only [V.plainP, Option.some.injEq, Prod.mk.injEq] at hp; obtain ⟨rfl, rfl⟩ := hp; exact ⟨fun A' h1 _ => V.Rep.mono (I := fun _ => True) ⟨fun b hb => ⟨h1 b hb, rfl⟩, fun _ _ => rfl, fun _ _ _ h => h⟩ _ _ (fun _ _ => trivial) hr, fun _ h => h, by simp⟩
 | .nilp, v', is, hp, c, hr => by simp only [V.plainP, Option.some.injEq, Prod.mk.injEq] at hp; obtain ⟨rfl, rfl⟩ := hp; exact ⟨fun A' h1 _ => V.Rep.mono (I := fun _ => True) ⟨fun b hb => ⟨h1 b hb, rfl⟩, fun _ _ => rfl, fun _ _ _ h => h⟩ _ _ (fun _ _ => trivial) hr, fun _ h => h, by simp⟩
 | .nilfn, v', is, hp, c, hr => by simp only [V.plainP, Option.some.injEq, Prod.mk.injEq] at hp; obtain ⟨rfl, rfl⟩ := hp; exact ⟨fun A' h1 _ => V.Rep.mono (I := fun _ => True) ⟨fun b hb => ⟨h1 b hb, rfl⟩, fun _ _ => rfl, fun _ _ _ h => h⟩ _ _ (fun _ _ => trivial) hr, fun _ h => h, by simp⟩
 | .nilif, v', is, hp, c, hr => by simp only [V.plainP, Option.some.injEq, Prod.mk.injEq] at hp; obtain ⟨rfl, rfl⟩ := hp; exact ⟨fun A' h1 _ => V.Rep.mono (I := fun _ => True) ⟨fun b hb => ⟨h1 b hb, rfl⟩, fun _ _ => rfl, fun _ _ _ h => h⟩ _ _ (fun _ _ => trivial) hr, fun _ h => h, by simp⟩
 | .nilmap, v', is, hp, c, hr => by simp only [V.plainP, Option.some.injEq, Prod.mk.injEq] at hp; obtain ⟨rfl, rfl⟩ := hp; exact ⟨fun A' h1 _ => V.Rep.mono (I := fun _ => True) ⟨fun b hb => ⟨h1 b hb, rfl⟩, fun _ _ => rfl, fun _ _ _ h => h⟩ _ _ (fun _ _ => trivial) hr, fun _ h => h, by simp⟩
 | .undef, v', is, hp, c, hr => by simp only [V.plainP, Option.some.injEq, Prod.mk.injEq] at hp; obtain ⟨rfl, rfl⟩ := hp; exact ⟨fun A' h1 _ => V.Rep.mono (I := fun _ => True) ⟨fun b hb => ⟨h1 b hb, rfl⟩, fun _ _ => rfl, fun _ _ _ h => h⟩ _ _ (fun _ _ => trivial) hr, fun _ h => h, by simp⟩
 | .win _ _ _ _, v', is, hp, c, hr => by simp only [V.plainP, Option.some.injEq, Prod.mk.injEq] at hp; obtain ⟨rfl, rfl⟩ := hp; exact ⟨fun A' h1 _ => V.Rep.mono (I := fun _ => True) ⟨fun b hb => ⟨h1 b hb, rfl⟩, fun _ _ => rfl, fun _ _ _ h => h⟩ _ _ (fun _ _ => trivial) hr, fun _ h => h, by simp⟩
 | .ref _ _ _ _, v', is, hp, c, hr => by simp only [V.plainP, Option.some.injEq, Prod.mk.injEq] at hp; obtain ⟨rfl, rfl⟩ := hp; exact ⟨fun A' h1 _ => V.Rep.mono (I := fun _ => True) ⟨fun b hb => ⟨h1 b hb, rfl⟩, fun _ _ => rfl, fun _ _ _ h => h⟩ _ _ (fun _ _ => trivial) hr, fun _ h => h, by simp⟩
 | .rod _ _ _, v', is, hp, c, hr => by simp only [V.plainP, Option.some.injEq, Prod.mk.injEq] at hp; obtain ⟨rfl, rfl⟩ := hp; exact ⟨fun A' h1 _ => V.Rep.mono (I := fun _ => True) ⟨fun b hb => ⟨h1 b hb, rfl⟩, fun _ _ => rfl, fun _ _ _ h => h⟩ _ _ (fun _ _ => trivial) hr, fun _ h => h, by simp⟩
 | .rodA _ _, v', is, hp, c, hr => by simp only [V.plainP, Option.some.injEq, Prod.mk.injEq] at hp; obtain ⟨rfl, rfl⟩ := hp; exact ⟨fun A' h1 _ => V.Rep.mono (I := fun _ => True) ⟨fun b hb => ⟨h1 b hb, rfl⟩, fun _ _ => rfl, fun _ _ _ h => h⟩ _ _ (fun _ _ => trivial) hr, fun _ h => h, by simp⟩
 | .map _, v', is, hp, c, hr => by simp only [V.plainP, Option.some.injEq, Prod.mk.injEq] at hp; obtain ⟨rfl, rfl⟩ := hp; exact ⟨fun A' h1 _ => V.Rep.mono (I := fun _ => True) ⟨fun b hb => ⟨h1 b hb, rfl⟩, fun _ _ => rfl, fun _ _ _ h => h⟩ _ _ (fun _ _ => trivial) hr, fun _ h => h, by simp⟩
 | .yld _, v', is, hp, c, hr => by simp only [V.plainP, Option.some.injEq, Prod.mk.injEq] at hp; obtain ⟨rfl, rfl⟩ := hp; exact ⟨fun A' h1 _ => V.Rep.mono (I := fun _ => True) ⟨fun b hb => ⟨h1 b hb, rfl⟩, fun _ _ => rfl, fun _ _ _ h => h⟩ _ _ (fun _ _ => trivial) hr, fun _ h => h, by simp⟩
 | .stamp _, v', is, hp, c, hr => by simp only [V.plainP, Option.some.injEq, Prod.mk.injEq] at hp; obtain ⟨rfl, rfl⟩ := hp; exact ⟨fun A' h1 _ => V.Rep.mono (I := fun _ => True) ⟨fun b hb => ⟨h1 b hb, rfl⟩, fun _ _ => rfl, fun _ _ _ h => h⟩ _ _ (fun _ _ => trivial) hr, fun _ h => h, by simp⟩
 | .iface _ _, v', is, hp, c, hr => by simp only [V.plainP, Option.some.injEq, Prod.mk.injEq] at hp; obtain ⟨rfl, rfl⟩ := hp; exact ⟨fun A' h1 _ => V.Rep.mono (I := fun _ => True) ⟨fun b hb => ⟨h1 b hb, rfl⟩, fun _ _ => rfl, fun _ _ _ h => h⟩ _ _ (fun _ _ => trivial) hr, fun _ h => h, by simp⟩
theorem V.plainLP_rep (hok : HeapOk gl w A η h) : (l l' : List V) → (is : List Nat) → V.plainLP h l = some (l', is) → (cs : List Value) → V.RepL w A η h l cs →
  (∀ A', (∀ b, A b → A' b) → (∀ i ∈ is, ∀ b, η i = some b → A' b) → V.RepL w A' η h l' cs) ∧ (∀ i ∈ V.idsL l', i ∈ V.idsL l) ∧ (∀ i ∈ is, i ∈ V.idsL l ∧ ∃ r xs fz, h i = some (.arr r xs fz))
 | [], l', is, hp, cs, hr => by
   simp only [V.plainLP, Option.some.injEq, Prod.mk.injEq] at hp
   obtain ⟨rfl, rfl⟩ := hp
   simp only [V.RepL] at hr
   exact ⟨fun A' _ _ => by simp only [V.RepL]; exact hr, fun _ h => h, by simp⟩
 | v :: l, l', is, hp, cs, hr => by
   simp only [V.plainLP] at hp
   split at hp
   ·rename_i v' is' l'' js' hv hl
    cases hp
    simp only [V.RepL] at hr
    obtain ⟨c, cs, rfl, h1, h2⟩ := hr
    obtain ⟨g1, g2, g3⟩ := V.plainP_rep hok v v' _ hv c h1
    obtain ⟨g4, g5, g6⟩ := V.plainLP_rep hok l l'' _ hl cs h2
    refine ⟨fun A' h3 h4 => by simp only [V.RepL]; exact ⟨c, cs, rfl, g1 A' h3 (fun i hi => h4 i (by simp [hi])), g4 A' h3 (fun i hi => h4 i (by simp [hi]))⟩, fun i hi => ?_, fun i hi => ?_⟩
    ·simp only [V.idsL, List.mem_append] at hi ⊢; exact hi.imp (g2 i) (g5 i)
    ·simp only [V.idsL, List.mem_append] at hi ⊢
     rcases hi with hi | hi
     ·exact ⟨.inl (g3 i hi).1, (g3 i hi).2⟩
     ·exact ⟨.inr (g6 i hi).1, (g6 i hi).2⟩
   ·cases hp
end
theorem HStep.froze (hok : HeapOk gl w A η h) : (is : List Nat) → (∀ i ∈ is, ∃ r xs fz, h i = some (.arr r xs fz)) → ∃ A', HStep gl m w A η h w A' η (ups (froze h is) h) ∧ (∀ b, A' b ↔ A b ∨ ∃ i ∈ is, η i = some b) ∧
  (∀ j r xs fz, h j = some (.arr r xs fz) → ∃ fz', ups (Vm.froze h is) h j = some (.arr r xs fz')) ∧ (∀ j, (∀ r xs fz, h j ≠ some (.arr r xs fz)) → ups (Vm.froze h is) h j = h j)
 | [], _ => ⟨A, .refl hok, by simp, fun j r xs fz hj => ⟨fz, hj⟩, fun _ _ => rfl⟩
 | i :: is, hi => by
   obtain ⟨A', h1, h2, h3, h4⟩ := HStep.froze hok is fun j hj => hi j (by simp [hj])
   obtain ⟨r, xs, fz, he⟩ := hi i (by simp)
   obtain ⟨fz', hf⟩ := h3 i r xs fz he
   simp only [Vm.froze, he]
   rw [ups_cons]
   refine ⟨_, h1.trans' (HStep.freeze h1.ok hf), fun b => ?_, fun j r' xs' fz₁ hj => ?_, fun j hj => ?_⟩
   ·simp only [h2, List.mem_cons, exists_eq_or_imp]
    constructor
    ·rintro ((h | h) | h)
     ·exact .inl h
     ·exact .inr (.inr h)
     ·exact .inr (.inl h)
    ·rintro (h | h | h)
     ·exact .inl (.inl h)
     ·exact .inr h
     ·exact .inl (.inr h)
   ·by_cases hij : i = j
    ·subst hij; rw [he] at hj; cases hj; exact ⟨true, ovr_same _ _ _⟩
    ·rw [ovr_ne _ _ hij]; exact h3 j r' xs' fz₁ hj
   ·have hij : i ≠ j := fun e => hj r xs fz (e ▸ he)
    rw [ovr_ne _ _ hij]; exact h4 j hj
end rows
end Vm
namespace Vm
open Go
section ops
variable {P : Program} {E : Env} {gl : Gl} {m : Nat} {w : World} {A : ASet} {η : Nat → Option Nat} {fr : Nat → Option V} {h : Nat → Option Ob} {a : Act} {nx : Nat}
variable {R : Type} {kk : Kk R} {r : R}
theorem new_some {dst : Option Nat} {ob : Ob} {v : Nat → V} {up : List (Nat × Ob)} (hv : effNew h nx dst kk ob v up = some r) :
  ∃ d, dst = some d ∧ h (nx + 64 * d) = none ∧ ∀ (S : Type) (kk : Kk S), effNew h nx dst kk ob v up = kk (v (nx + 64 * d)) ((nx + 64 * d, ob) :: up) := by
 unfold effNew at hv
 split at hv
 ·rename_i d
  split at hv
  ·rename_i hn
   exact ⟨d, rfl, hn, fun S kk => by simp only [effNew, hn]⟩
  ·cases hv
 ·cases hv
theorem cellsOf_rep {v : V} {c : Value} (hr : V.Rep w A η h v c) : V.RepL w A η h (cellsOf v) c.cells.toList ∧ (V.idsL (cellsOf v) = v.ids) := by
 have one : (∀ l, v ≠ .agg l) → cellsOf v = [v] := fun hn => by cases v <;> first | rfl | exact absurd rfl (hn _)
 have val : (∀ cs, c ≠ .agg cs) → c.cells = #[c] := fun hn => by cases c <;> first | rfl | exact absurd rfl (hn _)
 by_cases hv : ∃ l, v = .agg l
 ·obtain ⟨l, rfl⟩ := hv
  simp only [V.Rep] at hr
  obtain ⟨cs, rfl, hcs⟩ := hr
  exact ⟨hcs, rfl⟩
 ·have hn : ∀ l, v ≠ .agg l := fun l e => hv ⟨l, e⟩
  have hc : ∀ cs, c ≠ .agg cs := by
   intro cs e
   subst e
   cases v <;> simp only [V.Rep, K.Rep, OwnRep] at hr <;> try (exact absurd rfl (hn _))
   all_goals try (cases hr; done)
   all_goals try (obtain ⟨_, _, _, _, hr, _⟩ := hr; cases hr; done)
   all_goals try (obtain ⟨_, _, e, _⟩ := hr; cases e; done)
   all_goals try (obtain ⟨_, e, _⟩ := hr; cases e; done)
   all_goals try (obtain ⟨_, _, e⟩ := hr; cases e; done)
   all_goals try (obtain ⟨_, _, _, e, _⟩ := hr; cases e; done)
   split at hr
   ·rcases hr with ⟨_, _, _, e⟩ | ⟨_, _, _, _, _, e, _⟩ <;> cases e
   ·obtain ⟨_, _, _, e⟩ := hr; cases e
  rw [one hn, val hc]
  exact ⟨by simp only [V.RepL]; exact ⟨c, [], rfl, hr, rfl⟩, by simp [V.idsL]⟩
theorem HStep.newVar (hok : HeapOk gl w A η h) {i : Nat} (hi : h i = none) (hm : m ≤ i) {l : List V} {cs : Array Value} {T : TypeId} (hr : V.RepL w A η h l cs.toList) (hd : ∀ j ∈ V.idsL l, h j ≠ none) :
  HStep gl m w A η h { w with heap := w.heap.push (.cells cs T) } A (upd η i (some w.heap.size)) (ovr h i (.var l)) :=
 HStep.new hok (by intro c T fz e; cases e <;> rfl) hi hm hd fun st => ⟨w.heap.size, cs, T, upd_same _ _ _, by simp, V.RepL.mono st l _ hd hr⟩
theorem ref_rep {i : Nat} {b : Nat} : V.Rep w A (upd η i (some b)) h (.ref i 0 0 0) (.pointer (some ⟨b, 0, none⟩)) := by
 simp only [V.Rep]; exact ⟨b, upd_same _ _ _, by simp⟩
theorem alloc_yields (henv : EnvOk P E) (hs : SOk gl w A η fr h a.tmps) (hm : m ≤ nx) {o : Oper} {t : TypeId} (ho : o.op = .alloc t) (hv : effAlloc E h nx o.dst kk t = some r) :
  Goal P gl m w A η h a o fun S kk => effAlloc E h nx o.dst kk t := by
 unfold effAlloc at hv
 split at hv
 ·rename_i ti h1
  obtain ⟨d, hd, hn, hk⟩ := new_some hv
  obtain ⟨z, hz, hrep⟩ := henv.zero h1
  have hz2 : ∃ cs : Array Value, z.cells = cs ∧ zeroL ti.zero cs.toList = true := by
   split at hrep
   ·obtain ⟨cs, rfl, h2⟩ := hrep; exact ⟨cs, rfl, h2⟩
   ·refine ⟨#[z], ?_, hrep.2⟩
    have := hrep.1
    cases z <;> first | rfl | exact absurd rfl (this _)
  obtain ⟨cs, hcs, hzl⟩ := hz2
  obtain ⟨g1, g2⟩ := zeroL_rep (w := w) (A := A) (η := η) (h := h) hzl
  have st := HStep.newVar (gl := gl) (m := m) hs.heap hn (by omega) (T := t) g1 (by simp [g2])
  refine ⟨_, _, fun S kk => by simp only [effAlloc, h1]; exact hk S kk, .value (.pointer (some ⟨w.heap.size, 0, none⟩)), .pointer (some ⟨w.heap.size, 0, none⟩), _, A, _, ?_, .inl rfl, by rw [ups_cons, ups_nil]; exact st, ref_rep, ?_⟩
  ·simp [execOp, ho, Instr.alloc, hz, newVar, newRow, hcs]
  ·intro j hj; simp only [V.ids, List.mem_singleton] at hj; subst hj; rw [ups_cons, ovr_same]; simp
 ·cases hv
theorem box_yields (hgl : E.gl = gl) (hs : SOk gl w A η fr h a.tmps) (hm : m ≤ nx) {o : Oper} {t : TypeId} {x : Operand} (ho : o.op = .box t x) (hv : effBox E fr h nx o.dst kk x = some r) :
  Goal P gl m w A η h a o fun S kk => effBox E fr h nx o.dst kk x := by
 unfold effBox at hv
 split at hv
 ·rename_i v hx
  obtain ⟨d, hd, hn, hk⟩ := new_some hv
  obtain ⟨r1, d1⟩ := ev_rep hgl hs hx
  obtain ⟨g1, g2⟩ := cellsOf_rep r1
  have st := HStep.newVar (gl := gl) (m := m) hs.heap hn (by omega) (T := t) g1 (by rw [g2]; exact d1)
  refine ⟨_, _, fun S kk => by simp only [effBox, hx]; exact hk S kk, .value (.pointer (some ⟨w.heap.size, 0, none⟩)), .pointer (some ⟨w.heap.size, 0, none⟩), _, A, _, ?_, .inl rfl, by rw [ups_cons, ups_nil]; exact st, ref_rep, ?_⟩
  ·simp [execOp, ho, Instr.box, newVar, newRow]
  ·intro j hj; simp only [V.ids, List.mem_singleton] at hj; subst hj; rw [ups_cons, ovr_same]; simp
 ·cases hv
theorem HStep.newArr (hok : HeapOk gl w A η h) {i : Nat} (hi : h i = none) (hm : m ≤ i) {r : Ks} {xs : List r.Ty} {cs : Array Value} {T : TypeId} {l : List Value} (hr : RowsIn w A r xs l) (hl : ∀ (j : Nat) v, l[j]? = some v → cs[j]? = some v)
  (hsz : xs.length * r.len ≤ cs.size) :
  HStep gl m w A η h { w with heap := w.heap.push (.cells cs T) } A (upd η i (some w.heap.size)) (ovr h i (.arr r xs false)) :=
 HStep.new hok (by intro c T fz e; cases e <;> rfl) hi hm (by simp [Ob.ids]) fun st => .inr ⟨w.heap.size, cs, T, upd_same _ _ _, by simp, hsz, by simp, fun k x hx => by
  have := (hr.mono st.imm).rep (b := w.heap.size) (o := 0) (fun j v hj => ⟨cs, T, (0, 0), by simp, by simpa using hl j v hj⟩) k x hx
  simpa using this⟩
theorem own_rep {i b : Nat} {r : Ks} {xs : List r.Ty} {cap : Nat} {c : Array Value} {T : TypeId} (hc : xs.length ≤ cap) (hb : w.heap[b]? = some (.cells c T (0, 0))) (hsz : cap * r.len ≤ c.size) :
  V.Rep w A (upd η i (some b)) (ovr h i (.arr r xs false)) (.own i) (.slice (some ⟨b, 0, none⟩) xs.length cap) := by
 simp only [V.Rep, OwnRep, ovr_same]
 exact .inr ⟨b, cap, c, T, upd_same _ _ _, rfl, hc, hb, hsz⟩
theorem makeMap_yields (henv : EnvOk P E) (hs : SOk gl w A η fr h a.tmps) (hm : m ≤ nx) {o : Oper} {t : TypeId} {x : Option Operand} (ho : o.op = .makeMap t x) (hv : effMakeMap E h nx o.dst kk t x = some r) :
  Goal P gl m w A η h a o fun S kk => effMakeMap E h nx o.dst kk t x := by
 unfold effMakeMap at hv
 split at hv
 ·rename_i ti h1
  split at hv
  ·rename_i te hk h2
   obtain ⟨d, hd, hn, hkk⟩ := new_some hv
   have st : HStep gl m w A η h { w with heap := w.heap.push (.map #[] 0) } A (upd η (nx + 64 * d) (some w.heap.size)) (ovr h (nx + 64 * d) (.map ti.key ti.ka te.row te.agg [])) :=
    HStep.new hs.heap (by intro c T fz e; cases e <;> rfl) hn (by omega) (by simp [Ob.ids]) fun st => ⟨w.heap.size, #[], 0, upd_same _ _ _, by simp, by simp [EntsRep], by simp [Stamped]⟩
   refine ⟨_, _, fun S kk => by simp only [effMakeMap, h1, hk, h2]; exact hkk S kk, .value (.map (some w.heap.size)), .map (some w.heap.size), _, A, _, ?_, .inl rfl, by rw [ups_cons, ups_nil]; exact st, ?_, ?_⟩
   ·simp [execOp, ho, Instr.makeMap]
   ·simp only [V.Rep]; exact ⟨_, upd_same _ _ _, rfl⟩
   ·intro j hj; simp only [V.ids, List.mem_singleton] at hj; subst hj; rw [ups_cons, ovr_same]; simp
  ·cases hv
 ·cases hv
theorem zero_row (henv : EnvOk P E) {t : TypeId} {ti : TI} (ht : E.τ t = some ti) {z : ti.row.Ty} (hz : Ks.close ti.row ti.zero = some z) :
  ∃ zv : Value, (∀ w, (zeroValue t).run P w = .ok zv w) ∧ zv.cells.size = ti.size ∧ ∀ w A, RowVals w A ti.row z zv.cells.toList := by
 obtain ⟨zv, h1, h2⟩ := henv.zero ht
 have hc : ∃ cs : Array Value, zv.cells = cs ∧ zeroL ti.zero cs.toList = true := by
  split at h2
  ·obtain ⟨cs, rfl, h3⟩ := h2; exact ⟨cs, rfl, h3⟩
  ·refine ⟨#[zv], ?_, h2.2⟩
   have := h2.1
   cases zv <;> first | rfl | exact absurd rfl (this _)
 obtain ⟨cs, h3, h4⟩ := hc
 refine ⟨zv, h1, ?_, fun w A => ?_⟩
 ·have := (zeroL_rep (w := default) (A := fun _ => True) (η := fun _ => none) (h := fun _ => none) h4).1.length
  rw [h3]; rw [henv.zlen ht] at this; simpa using this.symm
 ·rw [h3]
  exact RowVals.close (η := fun _ => none) (h := fun _ => none) _ _ _ hz (zeroL_rep h4).1
theorem zeros_list (z : Array Value) (n : Nat) : ((List.range (n * z.size)).map fun i => z[i % z.size]!) = (List.replicate n z.toList).flatten := by
 induction n with
 | zero => simp
 | succ n ih =>
   rw [Nat.succ_mul, Nat.add_comm, List.range_add, List.map_append, List.map_map, List.replicate_succ, List.flatten_cons, ← ih]
   congr 1
   ·apply List.ext_getElem
    ·simp
    ·intro i h1 h2
     simp at h1
     simp [Nat.mod_eq_of_lt h1, h1]
   ·apply List.map_congr_left
    intro i _
    simp [Nat.add_mod_left]
theorem zeros_eq (z : Array Value) (n : Nat) : ((Array.range (n * z.size)).map fun i => z[i % z.size]!) = (List.replicate n z.toList).flatten.toArray := by
 apply Array.ext'
 rw [← zeros_list]
 simp [Array.toList_range]
theorem zeros_size (z : Array Value) (n : Nat) : ((List.replicate n z.toList).flatten).length = n * z.size := by
 rw [← zeros_list]; simp
theorem zero_rows {r : Ks} {z : r.Ty} {zc : Array Value} (hz : RowVals w A r z zc.toList) (n : Nat) : RowsIn w A r (List.replicate n z) (List.replicate n zc.toList).flatten := RowsIn.replicate hz n
theorem makeSlice_yields (henv : EnvOk P E) (hgl : E.gl = gl) (hs : SOk gl w A η fr h a.tmps) (hm : m ≤ nx) {o : Oper} {t : TypeId} {x y : Operand} (ho : o.op = .makeSlice t x y) (hv : effMakeSlice E fr h nx o.dst kk t x y = some r) :
  Goal P gl m w A η h a o fun S kk => effMakeSlice E fr h nx o.dst kk t x y := by
 unfold effMakeSlice at hv
 split at hv
 ·rename_i ti k n k' c h1 hx hy
  split at hv
  ·rename_i te hk h2
   split at hv
   ·rename_i z hz
    by_cases hc : 0 ≤ n ∧ n ≤ c ∧ c * te.bytes ≤ bytesMost ∧ c ≤ bytesMost ∧ te.size = te.row.len ∧ 0 < te.size
    ·rw [decide_eq_true hc, cond_true] at hv
     obtain ⟨d, hd, hn, hkk⟩ := new_some hv
     obtain ⟨c0, c1, c2, c3, c4, c5⟩ := hc
     have rx := (ev_rep hgl hs hx).1
     have ry := (ev_rep hgl hs hy).1
     simp only [V.Rep] at rx ry
     obtain ⟨zv, z1, z2, z3⟩ := zero_row henv h2 hz
     obtain ⟨inf, hinf, hs1, hs2⟩ := henv.info h2
     have hwn : IntKind.i64.wrap n = n := IntWalk.i64_in n (by unfold bytesMost at *; omega)
     have hwc : IntKind.i64.wrap c = c := IntWalk.i64_in c (by unfold bytesMost at *; omega)
     have hb1 : ¬ ((te.bytes : Int) * c > 2 ^ 48) := by rw [Int.mul_comm]; unfold bytesMost at *; omega
     have hrun : (execOp a.eval o).run P w = .ok (.value (.slice (some ⟨w.heap.size, 0, none⟩) n.toNat c.toNat)) { w with heap := w.heap.push (.cells (List.replicate c.toNat zv.cells.toList).flatten.toArray ti.elem) } := by
      have hp : ¬ (c.toNat * te.size = 0) ∨ c.toNat * te.size = 0 := by omega
      simp only [execOp, ho, Instr.makeSlice, Sem.run_bind, run_underlying (tk_slice henv h1 hk), Result.andThen_ok, rx, ry, asInt, asIntOf, Sem.run_pure, typeInfo, run_program, hinf, hs2, hwn, hwc]
      have hbig : (decide (c < 0) || decide ((te.bytes : Int) * c > 2 ^ 48)) = false := by
       rw [decide_eq_false (by omega), decide_eq_false hb1]; rfl
      have hcond : ((decide (c < 0) || decide ((te.bytes : Int) * c > 2 ^ 48)) || decide (n < 0) || decide (n > c)) = false := by
       rw [hbig, decide_eq_false (by omega), decide_eq_false (by omega)]; rfl
      rw [if_neg (by simpa using hcond)]
      simp only [Result.andThen_ok, run_askRoom, Sem.run_bind, henv.run_size h2]
      by_cases h0 : c.toNat * te.size = 0
      ·have hc0 : c.toNat = 0 := by rcases Nat.mul_eq_zero.1 h0 with h | h <;> omega
       rw [if_pos h0]
       have er : Array.range 0 = #[] := rfl
       simp [newRow, hc0, er]
      ·rw [if_neg h0]
       simp only [Sem.run_bind, z1, Result.andThen_ok, Sem.run_pure, newRow, run_newObj]
       rw [← z2, zeros_eq]
     have st : HStep gl m w A η h _ A _ _ := HStep.newArr (gl := gl) (m := m) hs.heap hn (by omega) (r := te.row) (xs := List.replicate n.toNat z) (cs := (List.replicate c.toNat zv.cells.toList).flatten.toArray) (T := ti.elem)
      (zero_rows (z3 w A) n.toNat) (fun j v hj => by
        have : c.toNat = n.toNat + (c.toNat - n.toNat) := by omega
        rw [List.getElem?_toArray, this, ← List.replicate_append_replicate, List.flatten_append, List.getElem?_append_left (List.getElem?_eq_some_iff.1 hj).1]
        exact hj) (by
        rw [List.size_toArray, zeros_size, z2, List.length_replicate, ← c4]
        exact Nat.mul_le_mul_right _ (by omega))
     refine ⟨_, _, fun S kk => by simp only [effMakeSlice, h1, hx, hy, hk, h2, hz, decide_eq_true (show 0 ≤ n ∧ n ≤ c ∧ c * te.bytes ≤ bytesMost ∧ c ≤ bytesMost ∧ te.size = te.row.len ∧ 0 < te.size from ⟨c0, c1, c2, c3, c4, c5⟩), cond_true]; exact hkk S kk,
      _, .slice (some ⟨w.heap.size, 0, none⟩) n.toNat c.toNat, _, A, _, hrun, .inl rfl, by rw [ups_cons, ups_nil]; exact st, ?_, ?_⟩
     ·rw [ups_cons, ups_nil]
      have := own_rep (w := { w with heap := w.heap.push (.cells (List.replicate c.toNat zv.cells.toList).flatten.toArray ti.elem) }) (A := A) (η := η) (h := h) (i := nx + 64 * d) (b := w.heap.size) (r := te.row) (xs := List.replicate n.toNat z) (cap := c.toNat)
       (c := (List.replicate c.toNat zv.cells.toList).flatten.toArray) (T := ti.elem) (by simp; omega) (by simp) (by rw [List.size_toArray, zeros_size, z2, c4]; exact Nat.le_refl _)
      rwa [List.length_replicate] at this
     ·intro j hj; simp only [V.ids, List.mem_singleton] at hj; subst hj; rw [ups_cons, ovr_same]; simp
    ·rw [decide_eq_false hc, cond_false] at hv; cases hv
   ·cases hv
  ·cases hv
 ·cases hv
theorem evps_rep (hgl : E.gl = gl) (hs : SOk gl w A η fr h a.tmps) : {l : List (Nat × Operand)} → {ps : List (Nat × V)} → evps E fr l = some ps →
  V.RepL w A η h (ps.map (·.2)) (l.map fun p => a.eval p.2) ∧ ps.map (·.1) = l.map (·.1) ∧ ∀ i ∈ V.idsL (ps.map (·.2)), h i ≠ none
 | [], ps, hv => by simp only [evps, Option.some.injEq] at hv; subst hv; exact ⟨by simp [V.RepL], rfl, by simp [V.idsL]⟩
 | (i, x) :: l, ps, hv => by
   simp only [evps] at hv
   split at hv
   ·rename_i v vs' h1 h2
    cases hv
    obtain ⟨h3, h4⟩ := ev_rep hgl hs h1
    obtain ⟨h5, h6, h7⟩ := evps_rep hgl hs h2
    refine ⟨by simp only [List.map_cons, V.RepL]; exact ⟨_, _, rfl, h3, h5⟩, by simp [h6], fun i hi => ?_⟩
    simp only [List.map_cons, V.idsL, List.mem_append] at hi
    exact hi.elim (h4 i) (h7 i)
   ·cases hv
theorem foldl_set (vs : List Value) : ∀ (off k : Nat) (cs : Array Value), off + k + vs.length ≤ cs.size →
  ((vs.zipIdx k).foldl (fun cs (x : Value × Nat) => cs.setIfInBounds (off + x.2) x.1) cs).toList = cs.toList.take (off + k) ++ (vs ++ cs.toList.drop (off + k + vs.length)) := by
 induction vs with
 | nil => intro off k cs _; simp
 | cons v vs ih =>
   intro off k cs hl
   simp only [List.zipIdx_cons, List.foldl_cons]
   simp only [List.length_cons] at hl
   rw [ih off (k + 1) _ (by simp; omega)]
   have e := list_seg_step cs.toList (off + k) v vs (by simp; omega)
   rw [Array.toList_setIfInBounds, show off + (k + 1) = off + k + 1 from by omega, ← List.append_assoc, e]
   simp [List.length_cons]
theorem fill_step {cs : Array Value} {v : Value} {off : Nat} (hl : off + v.cells.size ≤ cs.size) :
  (v.cells.zipIdx.foldl (fun cs (x : Value × Nat) => cs.setIfInBounds (off + x.2) x.1) cs).toList = cs.toList.take off ++ (v.cells.toList ++ cs.toList.drop (off + v.cells.size)) := by
 have := foldl_set v.cells.toList off 0 cs (by simpa using hl)
 rw [← Array.foldl_toList]
 simpa using this
theorem repL_set {l : List V} {cs : List Value} {u : List V} {us : List Value} (h1 : V.RepL w A η h l cs) (h2 : V.RepL w A η h u us) (off : Nat) : V.RepL w A η h (setAt l off u) (cs.take off ++ (us ++ cs.drop (off + us.length))) := by
 unfold setAt
 rw [← h2.length]
 exact (h1.take off).append (h2.append (h1.drop _))
theorem buildParts_rep {place place' : Nat → Option (Nat × Nat)} (hpp : ∀ i p, place i = some p → place' i = some p) : (ps : List (Nat × V)) → (qs : List (Nat × Value)) → (l l' : List V) → (cs : Array Value) → V.RepL w A η h l cs.toList → ps.map (·.1) = qs.map (·.1) → V.RepL w A η h (ps.map (·.2)) (qs.map (·.2)) →
  buildParts place l ps = some l' → ∃ cs', Instr.fill place' cs qs = some cs' ∧ V.RepL w A η h l' cs'.toList ∧ cs'.size = cs.size
 | [], qs, l, l', cs, hr, he, hp, hb => by
   cases qs with
   | nil => simp only [buildParts, Option.some.injEq] at hb; subst hb; exact ⟨cs, rfl, hr, rfl⟩
   | cons q qs => simp at he
 | (i, v) :: ps, qs, l, l', cs, hr, he, hp, hb => by
   cases qs with
   | nil => simp at he
   | cons q qs =>
     obtain ⟨j, c⟩ := q
     simp only [List.map_cons, List.cons.injEq] at he
     obtain ⟨rfl, he⟩ := he
     simp only [List.map_cons, V.RepL] at hp
     obtain ⟨c', cs', e, hvc, hps⟩ := hp
     simp only [List.cons.injEq] at e
     obtain ⟨rfl, rfl⟩ := e
     simp only [buildParts] at hb
     split at hb
     ·rename_i off n hpl
      split at hb
      ·rename_i hc
       obtain ⟨g1, g2⟩ := cellsOf_rep hvc
       have hlen := g1.length
       have hlen2 := hr.length
       simp only [Array.length_toList] at hlen hlen2
       have hr' := repL_set hr g1 off
       have hst := fill_step (cs := cs) (v := c) (off := off) (by omega)
       rw [Array.length_toList] at hr'
       rw [← hst] at hr'
       obtain ⟨cs', k1, k2, k3⟩ := buildParts_rep hpp ps qs _ l' _ hr' he hps hb
       refine ⟨cs', ?_, k2, ?_⟩
       ·simp only [Instr.fill, hpp _ _ hpl]
        rw [if_neg (by simp; omega)]
        exact k1
       ·rw [k3]
        have := congrArg List.length hst
        simp only [Array.length_toList, List.length_append, List.length_take, List.length_drop] at this
        omega
      ·cases hb
     ·cases hb
theorem buildParts_ids {place : Nat → Option (Nat × Nat)} : (ps : List (Nat × V)) → (l l' : List V) → buildParts place l ps = some l' → ∀ i ∈ V.idsL l', i ∈ V.idsL l ∨ i ∈ V.idsL (ps.map (·.2))
 | [], l, l', hb, i, hi => by simp only [buildParts, Option.some.injEq] at hb; subst hb; exact .inl hi
 | (j, v) :: ps, l, l', hb, i, hi => by
   simp only [buildParts] at hb
   split at hb
   ·split at hb
    ·rename_i off n _ _
     have app : ∀ (a b : List V), V.idsL (a ++ b) = V.idsL a ++ V.idsL b := by
      intro a b; induction a with
      | nil => rfl
      | cons u a ih => simp [V.idsL, ih]
     have tk : ∀ (l : List V) (n : Nat), i ∈ V.idsL (l.take n) → i ∈ V.idsL l := by
      intro l n h; have := app (l.take n) (l.drop n); rw [List.take_append_drop] at this; rw [this]; simp [h]
     have dr : ∀ (l : List V) (n : Nat), i ∈ V.idsL (l.drop n) → i ∈ V.idsL l := by
      intro l n h; have := app (l.take n) (l.drop n); rw [List.take_append_drop] at this; rw [this]; simp [h]
     have cell : i ∈ V.idsL (cellsOf v) → i ∈ v.ids := by
      unfold cellsOf
      split
      ·simp [V.ids]
      ·simp [V.idsL]
     rcases buildParts_ids ps _ l' hb i hi with h | h
     ·unfold setAt at h
      rw [app, app] at h
      simp only [List.mem_append] at h
      rcases h with h | h | h
      ·exact .inl (tk _ _ h)
      ·exact .inr (by simp only [List.map_cons, V.idsL, List.mem_append]; exact .inl (cell h))
      ·exact .inl (dr _ _ h)
     ·exact .inr (by simp only [List.map_cons, V.idsL, List.mem_append]; exact .inr h)
    ·cases hb
   ·cases hb
theorem zero_cells (henv : EnvOk P E) {t : TypeId} {ti : TI} (ht : E.τ t = some ti) : ∃ zv : Value, (∀ w, (zeroValue t).run P w = .ok zv w) ∧ V.RepL w A η h ti.zero zv.cells.toList ∧ V.idsL ti.zero = [] ∧ zv.cells.size = ti.size := by
 obtain ⟨zv, h1, h2⟩ := henv.zero ht
 have hc : ∃ cs : Array Value, zv.cells = cs ∧ zeroL ti.zero cs.toList = true := by
  split at h2
  ·obtain ⟨cs, rfl, h3⟩ := h2; exact ⟨cs, rfl, h3⟩
  ·refine ⟨#[zv], ?_, h2.2⟩
   have := h2.1
   cases zv <;> first | rfl | exact absurd rfl (this _)
 obtain ⟨cs, h3, h4⟩ := hc
 obtain ⟨g1, g2⟩ := zeroL_rep (w := w) (A := A) (η := η) (h := h) h4
 refine ⟨zv, h1, by rw [h3]; exact g1, g2, ?_⟩
 have := g1.length; rw [henv.zlen ht] at this; rw [h3]; simpa using this.symm
theorem tk_struct' (henv : EnvOk P E) {t : TypeId} {ti : TI} (ht : E.τ t = some ti) (hk : ti.tk = .struct) : ∃ fs, P.underlying t = some (.struct fs) ∧ ti.offs = fs.toList.map (·.offset) ∧ ti.fts = fs.toList.map (·.type) ∧ ∀ f ∈ fs, ∃ i, P.info? f.type = some i := by
 have := henv.tk ht
 unfold tkOk at this
 rw [hk] at this
 split at this <;> first | (cases this; done) | skip
 all_goals simp_all
 intro f hf
 obtain ⟨i, hi, rfl⟩ := Array.mem_iff_getElem.1 hf
 exact Option.isSome_iff_exists.1 (this.2 i hi)
theorem run_places (fs : Array Field) (hf : ∀ f ∈ fs, ∃ i, P.info? f.type = some i) (w : World) :
  (fs.mapM fun (f : Field) => (do pure (f.offset, ← Go.sizeOf f.type) : Sem (Nat × Nat))).run P w = .ok (fs.map fun f => (f.offset, ((P.info? f.type).map (·.size)).getD 0)) w := by
 have pl : ∀ (fs : List Field), (∀ f ∈ fs, ∃ i, P.info? f.type = some i) → ∀ w : World, (fs.mapM fun (f : Field) => (do pure (f.offset, ← Go.sizeOf f.type) : Sem (Nat × Nat))).run P w = .ok (fs.map fun f => (f.offset, ((P.info? f.type).map (·.size)).getD 0)) w := by
  intro fs
  induction fs with
  | nil => intro _ w; simp [List.mapM_nil]
  | cons f fs ih =>
    intro hf w
    obtain ⟨i, hi⟩ := hf f (by simp)
    simp only [List.mapM_cons, Sem.run_bind, Go.sizeOf, typeInfo, run_program, Result.andThen_ok, hi, Sem.run_pure, List.map_cons, Option.map_some, Option.getD_some]
    have := ih (fun g hg => hf g (by simp [hg])) w
    simp only [Go.sizeOf, typeInfo] at this
    rw [this]
    rfl
 rw [Array.mapM_eq_mapM_toList, Sem.run_map, pl fs.toList (by simpa using hf) w]
 simp only [Result.andThen_ok]
 congr 1
 apply Array.ext'
 simp
theorem build_yields (henv : EnvOk P E) (hgl : E.gl = gl) (hs : SOk gl w A η fr h a.tmps) {o : Oper} {t : TypeId} {ps : Array (Nat × Operand)} (ho : o.op = .build t ps) (hv : effBuild E fr kk t ps = some r) :
  Goal P gl m w A η h a o fun S kk => effBuild E fr kk t ps := by
 unfold effBuild at hv
 split at hv
 ·rename_i ti qs h1 hq
  obtain ⟨q1, q2, q3⟩ := evps_rep hgl hs hq
  obtain ⟨zv, z1, z2, z3, z4⟩ := zero_cells (w := w) (A := A) (η := η) (h := h) henv h1
  have e1 : qs.map (·.1) = (ps.toList.map fun p => (p.1, a.eval p.2)).map (·.1) := by rw [q2, List.map_map]; rfl
  have e2 : V.RepL w A η h (qs.map (·.2)) ((ps.toList.map fun p => (p.1, a.eval p.2)).map (·.2)) := by rw [List.map_map]; exact q1
  have eps : (ps.map fun (i, x) => (i, a.eval x)).toList = ps.toList.map fun p => (p.1, a.eval p.2) := by simp
  split at hv
  ·rename_i hk
   split at hv
   ·rename_i cs hb
    obtain ⟨fs, hu, ho1, ho2, ho3⟩ := tk_struct' henv h1 hk
    have pl := run_places (P := P) fs ho3
    obtain ⟨out, k1, k2, k3⟩ := buildParts_rep (place' := fun i => (fs.map fun f => (f.offset, ((P.info? f.type).map (·.size)).getD 0))[i]?) (fun i p hp => by
     split at hp
     ·rename_i o₁ ft e3 e4
      rw [ho1] at e3; rw [ho2] at e4
      obtain ⟨fd, hf, rfl⟩ := get_map e3
      obtain ⟨fd', hf', rfl⟩ := get_map e4
      rw [hf] at hf'; cases hf'
      split at hp
      ·rename_i tf h4
       cases hp
       obtain ⟨i₁, hi₁, hs₁, _⟩ := henv.info h4
       have hf2 : fs[i]? = some fd := by simpa using hf
       simp [hf2, hi₁, hs₁]
      ·cases hp
     ·cases hp) qs _ _ cs zv.cells z2 e1 e2 hb
    refine ⟨.agg cs, [], fun S kk => by simp only [effBuild, h1, hq, hk]; rw [hb], .pure hs (c := .agg out) ?_ ?_ ?_⟩
    ·simp only [execOp, ho, Instr.build, Sem.run_bind, z1, Result.andThen_ok, run_underlying hu, pl, eps, k1, Sem.run_pure]
    ·simp only [V.Rep]; exact ⟨out, rfl, k2⟩
    ·intro i hi
     rcases buildParts_ids _ _ _ hb i (by simpa [V.ids] using hi) with h' | h'
     ·rw [z3] at h'; cases h'
     ·exact q3 i h'
   ·cases hv
  ·rename_i hk
   split at hv
   ·rename_i te h2
    split at hv
    ·rename_i cs hb
     obtain ⟨N, inf, hu, hinf, hsize, hpos⟩ := tk_array henv h1 hk
     obtain ⟨out, k1, k2, k3⟩ := buildParts_rep (fun _ _ h => h) qs _ _ cs zv.cells z2 e1 e2 hb
     refine ⟨.agg cs, [], fun S kk => by simp only [effBuild, h1, hq, hk, h2, hb], .pure hs (c := .agg out) ?_ ?_ ?_⟩
     ·simp only [execOp, ho, Instr.build, Sem.run_bind, z1, Result.andThen_ok, run_underlying hu, henv.run_size h2, eps, k1, Sem.run_pure]
     ·simp only [V.Rep]; exact ⟨out, rfl, k2⟩
     ·intro i hi
      rcases buildParts_ids _ _ _ hb i (by simpa [V.ids] using hi) with h' | h'
      ·rw [z3] at h'; cases h'
      ·exact q3 i h'
    ·cases hv
   ·cases hv
  ·cases hv
 ·cases hv
end ops
end Vm
namespace Vm
open Go
section ops
variable {P : Program} {E : Env} {gl : Gl} {m : Nat} {w : World} {A : ASet} {η : Nat → Option Nat} {fr : Nat → Option V} {h : Nat → Option Ob} {a : Act} {nx : Nat}
variable {R : Type} {kk : Kk R} {r : R}
theorem setRows_len {r : Ks} : (ps : List (Nat × V)) → (xs ys : List r.Ty) → (is : List Nat) → setRows h r xs ps = some (ys, is) → ys.length = xs.length
 | [], xs, ys, is, hp => by simp only [setRows, Option.some.injEq, Prod.mk.injEq] at hp; rw [hp.1]
 | (i, v) :: ps, xs, ys, is, hp => by
   simp only [setRows] at hp
   split at hp
   ·cases hp
   ·split at hp
    ·cases hp
    ·split at hp
     ·split at hp
      ·rename_i zs js hz
       cases hp
       have := setRows_len ps _ _ _ hz
       simpa using this
      ·cases hp
     ·cases hp
theorem setRows_rep (hok : HeapOk gl w A η h) {r : Ks} {sz : Nat} (hsz : sz = r.len) : (ps : List (Nat × V)) → (qs : List (Nat × Value)) → (xs ys : List r.Ty) → (is : List Nat) → (cs : Array Value) → ps.map (·.1) = qs.map (·.1) → V.RepL w A η h (ps.map (·.2)) (qs.map (·.2)) →
  setRows h r xs ps = some (ys, is) → (∀ i ∈ is, ∃ r xs fz, h i = some (.arr r xs fz)) ∧ ∀ A', (∀ b, A b → A' b) → (∀ i ∈ is, ∀ b, η i = some b → A' b) → RowsIn w A' r xs cs.toList → ∃ cs', Instr.fill (fun i => some (i * sz, sz)) cs qs = some cs' ∧ RowsIn w A' r ys cs'.toList
 | [], qs, xs, ys, is, cs, he, hp, hb => by
   cases qs with
   | cons q qs => simp at he
   | nil =>
     simp only [setRows, Option.some.injEq, Prod.mk.injEq] at hb
     obtain ⟨rfl, rfl⟩ := hb
     exact ⟨by simp, fun A' _ _ hr => ⟨cs, rfl, hr⟩⟩
 | (i, v) :: ps, qs, xs, ys, is, cs, he, hp, hb => by
   cases qs with
   | nil => simp at he
   | cons q qs =>
     obtain ⟨j, c⟩ := q
     simp only [List.map_cons, List.cons.injEq] at he
     obtain ⟨rfl, he⟩ := he
     simp only [List.map_cons, V.RepL] at hp
     obtain ⟨c', cs₀, e, hvc, hps⟩ := hp
     simp only [List.cons.injEq] at e
     obtain ⟨rfl, rfl⟩ := e
     simp only [setRows] at hb
     split at hb
     ·cases hb
     ·rename_i v' is' hpl
      split at hb
      ·cases hb
      ·rename_i y hy
       split at hb
       ·rename_i hlt
        split at hb
        ·rename_i ys' js hz
         cases hb
         obtain ⟨g1, g2, g3⟩ := V.plain_rep hok v v' is' hpl c hvc
         have key := fun cs => setRows_rep hok hsz ps qs (xs.set i y) ys js cs he hps hz
         refine ⟨fun k hk => ?_, fun A' h1 h2 hr => ?_⟩
         ·rcases List.mem_append.1 hk with hk | hk
          ·exact (g3 k hk).2
          ·exact (key cs).1 k hk
         ·have hv' := g1 A' h1 fun k hk => h2 k (by simp [hk])
          obtain ⟨c1, _⟩ := cellsOf_rep hv'
          have hrow : RowVals w A' r y c.cells.toList := RowVals.close r _ y hy c1
          have hlen := hrow.length
          have hcl := hr.length
          simp only [Array.length_toList] at hlen hcl
          have hfit : i * sz + c.cells.size ≤ cs.size := by
           rw [hlen, hcl, hsz, ← Nat.succ_mul]; exact Nat.mul_le_mul_right _ hlt
          have hst := fill_step (cs := cs) (v := c) (off := i * sz) hfit
          have hr' := RowsIn.set hrow i hlt hr
          rw [← hsz, show i * sz + sz = i * sz + c.cells.size from by rw [hlen, hsz], ← hst] at hr'
          obtain ⟨cs', k1, k2⟩ := (key _).2 A' h1 (fun k hk => h2 k (by simp [hk])) hr'
          refine ⟨cs', ?_, k2⟩
          simp only [Instr.fill]
          rw [if_neg (by simp; omega)]
          exact k1
        ·cases hb
       ·cases hb
theorem froze_fresh {is : List Nat} {j : Nat} (hj : h j = none) : ups (froze h is) h j = none := by
 induction is with
 | nil => exact hj
 | cons i is ih =>
   simp only [froze]
   split
   ·rename_i hi
    rw [ups_cons, ovr_ne]
    ·exact ih
    ·rintro rfl; rw [hj] at hi; cases hi
   ·exact ih
theorem buildSlice_yields (henv : EnvOk P E) (hgl : E.gl = gl) (hs : SOk gl w A η fr h a.tmps) (hm : m ≤ nx) {o : Oper} {t : TypeId} {n : Nat} {ps : Array (Nat × Operand)} (ho : o.op = .buildSlice t n ps) (hv : effBuildSlice E fr h nx o.dst kk t n ps = some r) :
  Goal P gl m w A η h a o fun S kk => effBuildSlice E fr h nx o.dst kk t n ps := by
 unfold effBuildSlice at hv
 split at hv
 ·rename_i ti qs h1 hq
  split at hv
  ·rename_i te hk h2
   split at hv
   ·cases hv
   ·rename_i z hz
    split at hv
    ·rename_i xs is hset
     by_cases hc : n * te.size ≤ 2 ^ 24 ∧ te.size = te.row.len ∧ 0 < te.size
     ·have hcc : (decide (n * te.size ≤ 2 ^ 24) && decide (te.size = te.row.len ∧ 0 < te.size)) = true := by simp only [Bool.and_eq_true, decide_eq_true_eq]; exact hc
      rw [hcc, cond_true] at hv
      obtain ⟨d, hd, hn, hkk⟩ := new_some hv
      obtain ⟨c1, c2, c3⟩ := hc
      obtain ⟨q1, q2, q3⟩ := evps_rep hgl hs hq
      obtain ⟨zv, z1, z2, z3⟩ := zero_row henv h2 hz
      have e1 : qs.map (·.1) = (ps.toList.map fun p => (p.1, a.eval p.2)).map (·.1) := by rw [q2, List.map_map]; rfl
      have e2 : V.RepL w A η h (qs.map (·.2)) ((ps.toList.map fun p => (p.1, a.eval p.2)).map (·.2)) := by rw [List.map_map]; exact q1
      have eps : (ps.map fun (i, x) => (i, a.eval x)).toList = ps.toList.map fun p => (p.1, a.eval p.2) := by simp
      obtain ⟨f1, f2⟩ := setRows_rep hs.heap c2 qs _ _ _ _ ((List.replicate n zv.cells.toList).flatten.toArray) e1 e2 hset
      obtain ⟨A', st1, hA', _, _⟩ := HStep.froze (m := m) hs.heap is f1
      obtain ⟨cs, k1, k2⟩ := f2 A' (fun b hb => (hA' b).2 (.inl hb)) (fun i hi b hb => (hA' b).2 (.inr ⟨i, hi, hb⟩)) (by simpa using zero_rows (z3 w A') n)
      have hlen := k2.length
      simp only [Array.length_toList] at hlen
      have st2 := HStep.newArr (gl := gl) (m := m) st1.ok (froze_fresh (is := is) hn) (by omega) (T := ti.elem) k2 (fun j v hj => by simpa using hj) (by rw [hlen]; exact Nat.le_refl _)
      have hxs : xs.length = n := by rw [setRows_len _ _ _ _ hset, List.length_replicate]
      have hrun : (execOp a.eval o).run P w = .ok (.value (.slice (some ⟨w.heap.size, 0, none⟩) xs.length xs.length)) { w with heap := w.heap.push (.cells cs ti.elem) } := by
       have hb : ¬ (n * te.size > 2 ^ 24) := by omega
       simp only [execOp, ho, Instr.buildSlice, Sem.run_bind, run_underlying (tk_slice henv h1 hk), Result.andThen_ok, henv.run_size h2]
       rw [if_neg hb]
       by_cases h0 : n * te.size = 0
       ·have hn0 : n = 0 := by rcases Nat.mul_eq_zero.1 h0 with h | h <;> omega
        subst hn0
        rw [if_pos h0]
        simp only [Sem.run_bind, Sem.run_pure, Result.andThen_ok]
        have cells0 : ((Array.range (0 * te.size)).map fun i => (#[] : Array Value)[i % (#[] : Array Value).size]!) = (List.replicate 0 zv.cells.toList).flatten.toArray := by simp [show Array.range 0 = #[] from rfl]
        rw [cells0, eps, k1]
        simp [newRow, hxs]
       ·rw [if_neg h0]
        simp only [Sem.run_bind, z1, Sem.run_pure, Result.andThen_ok]
        rw [← z2, zeros_eq, eps, z2, k1]
        simp [newRow, hxs]
      refine ⟨_, _, fun S kk => by simp only [effBuildSlice, h1, hq, hk, h2, hz, hset, hcc, cond_true]; exact hkk S kk, _, .slice (some ⟨w.heap.size, 0, none⟩) xs.length xs.length, _, A', _, hrun, .inl rfl, by rw [ups_cons]; exact st1.trans' st2, ?_, ?_⟩
      ·rw [ups_cons]
       exact own_rep (Nat.le_refl _) (T := ti.elem) (c := cs) (by simp) (by rw [hlen]; exact Nat.le_refl _)
      ·intro j hj; simp only [V.ids, List.mem_singleton] at hj; subst hj; rw [ups_cons, ovr_same]; simp
     ·have : (decide (n * te.size ≤ 2 ^ 24) && decide (te.size = te.row.len ∧ 0 < te.size)) = false := by
        rw [Bool.eq_false_iff]; intro e; simp only [Bool.and_eq_true, decide_eq_true_eq] at e; exact hc e
      rw [this, cond_false] at hv; cases hv
    ·cases hv
  ·cases hv
 ·cases hv
theorem rowsOf0_src (hok : HeapOk gl w A η h) {r : Ks} {x : V} {ys : List r.Ty} {c : Value} (hx : rowsOf0 h r x = some ys) (hr : V.Rep w A η h x c) :
  ∃ l, RowsIn w A r ys l ∧ (Builtin.lenOf c).run P w = .ok ys.length w ∧ ∀ n, (Builtin.firstCells r.len ys.length c).run P { w with drawn := n } = .ok l.toArray { w with drawn := n } := by
 have fromRep : ∀ (b o cap : Nat) (ys : List r.Ty), (∀ (i : Nat) x, ys[i]? = some x → Ks.Rep w A r x b (o + i * r.len)) →
   ∃ l, RowsIn w A r ys l ∧ (Builtin.lenOf (.slice (some ⟨b, o, none⟩) ys.length cap)).run P w = .ok ys.length w ∧ ∀ n, (Builtin.firstCells r.len ys.length (.slice (some ⟨b, o, none⟩) ys.length cap)).run P { w with drawn := n } = .ok l.toArray { w with drawn := n } := by
  intro b o cap ys hrep
  obtain ⟨l, h1, h2⟩ := RowsIn.of_rep hrep
  refine ⟨l, h1, by simp [Builtin.lenOf], fun n => ?_⟩
  have := run_loadCells_list (P := P) { w with drawn := n } ⟨b, o, none⟩ l (fun j v hj => by rw [add_plain]; exact (h2 j v hj).cell?)
  rw [h1.length] at this
  simpa [Builtin.firstCells] using this
 have nil : ∃ l, RowsIn w A r [] l ∧ (Builtin.lenOf (.slice none 0 0)).run P w = .ok 0 w ∧ ∀ n, (Builtin.firstCells r.len 0 (.slice none 0 0)).run P { w with drawn := n } = .ok l.toArray { w with drawn := n } :=
  ⟨[], by simp only [RowsIn], by simp [Builtin.lenOf], fun n => by simp [Builtin.firstCells]⟩
 unfold rowsOf0 at hx
 split at hx
 ·rename_i r' zs
  split at hx
  ·rename_i e _
   cases hx
   subst e
   simp only [V.Rep, K.Rep] at hr
   obtain ⟨ad, cap, rfl, hcap, hz, hrows⟩ := hr
   cases ad with
   | none =>
     have h0 := hz rfl
     have hnil : (zs : List r'.Ty) = [] := List.length_eq_zero_iff.1 (by omega)
     subst hnil
     obtain ⟨l, h1, h2, h3⟩ := nil
     subst h0
     exact ⟨l, h1, h2, h3⟩
   | some ad =>
     by_cases hc0 : 0 < cap
     ·obtain ⟨h1, h2, h3⟩ := hrows ad rfl hc0
      obtain ⟨b, o, sp⟩ := ad
      simp only at h1; subst h1
      exact fromRep b o cap zs h3
     ·have hnil : (zs : List r'.Ty) = [] := List.length_eq_zero_iff.1 (by omega)
      subst hnil
      have two : ∃ l, RowsIn w A r' [] l ∧ (Builtin.lenOf (.slice (some ad) 0 cap)).run P w = .ok 0 w ∧ ∀ n, (Builtin.firstCells r'.len 0 (.slice (some ad) 0 cap)).run P { w with drawn := n } = .ok l.toArray { w with drawn := n } :=
       ⟨[], by simp only [RowsIn], by simp [Builtin.lenOf], fun n => by
         have := run_loadCells_list (P := P) { w with drawn := n } ad [] (by simp)
         simpa [Builtin.firstCells] using this⟩
      obtain ⟨l, g1, g2, g3⟩ := two
      exact ⟨l, g1, g2, g3⟩
  ·cases hx
 ·cases hx
  simp only [V.Rep] at hr
  subst hr
  exact nil
 ·rename_i j
  split at hx
  ·rename_i r' zs fz hj
   split at hx
   ·rename_i e _
    cases hx
    subst e
    simp only [V.Rep, OwnRep, hj] at hr
    rcases hr with ⟨_, h2, ad, h3⟩ | ⟨b, cap, c', T, h1, h2, h3, h4, h5⟩
    ·subst h2; subst h3
     cases ad with
     | none => exact nil
     | some ad =>
       have two : ∃ l, RowsIn w A r' [] l ∧ (Builtin.lenOf (.slice (some ad) 0 0)).run P w = .ok 0 w ∧ ∀ n, (Builtin.firstCells r'.len 0 (.slice (some ad) 0 0)).run P { w with drawn := n } = .ok l.toArray { w with drawn := n } :=
        ⟨[], by simp only [RowsIn], by simp [Builtin.lenOf], fun n => by
          have := run_loadCells_list (P := P) { w with drawn := n } ad [] (by simp)
          simpa [Builtin.firstCells] using this⟩
       exact two
    ·subst h2
     refine fromRep b 0 cap zs fun i x hi => ?_
     rcases hok.ob j _ hj with ⟨h6, _⟩ | ⟨b', c'', T', h6, h7, h8, h9, h10⟩
     ·rw [h1] at h6; cases h6
     ·rw [h1] at h6; cases h6; rw [Nat.zero_add]; exact h10 i x hi
   ·cases hx
  ·cases hx
 ·cases hx
theorem rowsOf_src (hok : HeapOk gl w A η h) {r : Ks} {x : V} {ys : List r.Ty} {c : Value} (hx : rowsOf h r x = some ys) (hr : V.Rep w A η h x c) :
  ∃ l, RowsIn w A r ys l ∧ (Builtin.lenOf c).run P w = .ok ys.length w ∧ ∀ n, (Builtin.firstCells r.len ys.length c).run P { w with drawn := n } = .ok l.toArray { w with drawn := n } := by
 unfold rowsOf at hx
 cases he : x.isEmp with
 | false => rw [he, cond_false] at hx; exact rowsOf0_src hok hx hr
 | true =>
   rw [he, cond_true] at hx
   cases hx
   obtain ⟨r', z, rfl⟩ := V.isEmp_of he
   simp only [V.Rep] at hr
   obtain ⟨ad, cap, rfl, _⟩ := hr
   exact ⟨[], by simp only [RowsIn], by simp [Builtin.lenOf], fun n => by
    have := run_loadCells_list (P := P) { w with drawn := n } ad [] (by simp)
    simpa [Builtin.firstCells] using this⟩
theorem nextcap_le (need cap : Nat) (h : cap < need) : Builtin.nextslicecap need cap ≤ 2 * need := by
 unfold Builtin.nextslicecap
 split
 ·omega
 ·split
  ·omega
  ·have grow : ∀ (k c : Nat), 256 ≤ c → c ≤ 2 * need → Builtin.growBy need k c ≤ 2 * need := by
     intro k
     induction k with
     | zero => intro c _ hc; exact hc
     | succ k ih =>
       intro c h1 h2
       simp only [Builtin.growBy]
       split
       ·exact h2
       ·exact ih _ (by omega) (by omega)
   exact grow 4 cap (by omega) (by omega)
theorem run_storeBlock {b off : Nat} {c : Array Value} {T : TypeId} {vs : List Value} (hb : w.heap[b]? = some (.cells c T (0, 0))) (hl : off + vs.length ≤ c.size) (h1 : ∀ v ∈ vs, v.oneCell' = true) :
  (storeCells ⟨b, off, none⟩ vs).run P w = .ok () { w with heap := w.heap.setIfInBounds b (.cells (c.toList.take off ++ (vs ++ c.toList.drop (off + vs.length))).toArray T) } := by
 have := run_storeCells_at P b off T vs 0 c w hb (by simpa using hl) h1
 rw [this]
 congr 1
 have hlt : b < w.heap.size := (Array.getElem?_eq_some_iff.1 hb).1
 have hv : w.heap[b] = .cells c T (0, 0) := (Array.getElem?_eq_some_iff.1 hb).2
 unfold World.setRow
 congr 1
 apply Array.ext
 ·simp
 ·intro k h2 h3
  simp only [Array.getElem_modify]
  split
  ·rename_i hk; subst hk; simp [hv]
  ·rename_i hk
   rw [Array.getElem_setIfInBounds_ne (by simpa using h2) (by exact hk)]
theorem append_yields (henv : EnvOk P E) (hs : SOk gl w A η fr h a.tmps) (hm : m ≤ nx) {o : Oper} {c : Call} {t u : TypeId} {ui : TI} {s x : V} {cs cx : Value} (ho : o.op = .call c) (hc : c.callee = .builtin .append) (hts : c.argTypes[0]? = some t) (htu : c.argTypes[1]? = some u)
  (hu : E.τ u = some ui) (huk : ui.tk = .slice) (hargs : c.args.map a.eval = #[cs, cx]) (hrs : V.Rep w A η h s cs) (hrx : V.Rep w A η h x cx) (hv : effAppend E h nx o.dst kk t s x = some r) :
  Goal P gl m w A η h a o fun S kk => effAppend E h nx o.dst kk t s x := by
 unfold effAppend at hv
 split at hv
 ·rename_i ti h1
  split at hv
  ·rename_i te hk h2
   split at hv
   ·cases hv
   ·rename_i ys hys
    split at hv
    ·rename_i hcond
     obtain ⟨c1, c2, c3⟩ := hcond
     obtain ⟨lsrc, s1, s2, s3⟩ := rowsOf_src (P := P) hs.heap hys hrx
     obtain ⟨inf, hinf, hs1, hs2⟩ := henv.info h2
     obtain ⟨zv, z1, z2, z3⟩ : ∃ zv : Value, (∀ w, (zeroValue ti.elem).run P w = .ok zv w) ∧ zv.cells.size = te.size ∧ True := by
      obtain ⟨zv, a1, a2, a3, a4⟩ := zero_cells (w := w) (A := A) (η := η) (h := h) henv h2
      exact ⟨zv, a1, a4, trivial⟩
     have huu : P.underlying u = some (.slice ui.elem) := tk_slice henv hu huk
     have start : (execOp a.eval o).run P w = ((Builtin.append_ c.argTypes o.type #[cs, cx]).run P w).andThen fun v w' => .ok (.value v) w' := by
      simp only [execOp, ho, resolve, hc, hargs, Sem.run_bind, Sem.run_pure, Result.andThen_ok, invoke, builtin]
     have room : ∀ (base : Option Addr) (sl cap : Nat), cs = .slice base sl cap → sl + ys.length ≤ cap →
       (Builtin.append_ c.argTypes o.type #[cs, cx]).run P w = ((match base with | some a => storeCells (a.add (sl * te.size)) lsrc | none => pure ()).run P w).andThen fun _ w' => .ok (.slice base (sl + ys.length) cap) w' := by
      intro base sl cap e hle
      subst e
      simp only [Builtin.append_, hts, htu, List.getElem?_toArray, List.getElem?_cons_zero, List.getElem?_cons_succ, Sem.run_bind, run_underlying (tk_slice henv h1 hk), Result.andThen_ok, henv.run_size h2, run_underlying huu, Sem.run_pure, Bool.false_eq_true, if_false, s2]
      rw [if_pos hle, c1]
      simp only [Bool.not_false, if_true, Sem.run_bind, s3 w.drawn, Result.andThen_ok]
      cases base with
      | none => simp
      | some ad => simp
     have grow : ∀ (base : Option Addr) (sl cap : Nat), cs = .slice base sl cap → (sl + ys.length) * te.bytes ≤ bytesMost → sl ≤ cap → ¬ sl + ys.length ≤ cap → ∀ (l₁ l₂ : List Value),
       (∀ n, (Builtin.firstCells te.row.len sl cs).run P { w with drawn := n } = .ok l₁.toArray { w with drawn := n }) → (∀ n, (Builtin.firstCells te.row.len ys.length cx).run P { w with drawn := n } = .ok l₂.toArray { w with drawn := n }) →
       ∃ n nc, sl + ys.length ≤ nc ∧ (Builtin.append_ c.argTypes o.type #[cs, cx]).run P w =
         .ok (.slice (some ⟨w.heap.size, 0, none⟩) (sl + ys.length) nc) { w with drawn := n, heap := w.heap.push (.cells (l₁ ++ l₂ ++ (List.replicate (nc - (sl + ys.length)) zv.cells.toList).flatten).toArray ti.elem) } := by
      intro base sl cap e hbytes hcap hgt l₁ l₂ o1 o2
      subst e
      refine ⟨w.drawn + 1, Question.cut (.appendCap (sl + ys.length) cap ti.elem) (w.tape w.drawn (.appendCap (sl + ys.length) cap ti.elem)), by simp [Question.cut], ?_⟩
      have hmul : (sl + ys.length) ≤ (sl + ys.length) * te.bytes := Nat.le_mul_of_pos_right _ c3
      have hnc := nextcap_le (sl + ys.length) cap (by omega)
      have hb48 : ¬ (Builtin.nextslicecap (sl + ys.length) cap * te.bytes > 2 ^ 48) := by
       have := Nat.mul_le_mul_right te.bytes hnc
       rw [Nat.mul_assoc] at this
       unfold bytesMost at hbytes
       omega
      have hmax : ¬ ((((sl + ys.length : Nat) : Int) > IntKind.i64.max) ∧ (False ∨ te.bytes = 0)) := by
       rintro ⟨_, h | h⟩
       ·exact h
       ·omega
      simp only [Builtin.append_, hts, htu, List.getElem?_toArray, List.getElem?_cons_zero, List.getElem?_cons_succ, Sem.run_bind, run_underlying (tk_slice henv h1 hk), Result.andThen_ok, henv.run_size h2, run_underlying huu, Sem.run_pure, Bool.false_eq_true, if_false, s2]
      rw [if_neg hgt, c1]
      have rti : ∀ w, (typeInfo ti.elem).run P w = .ok inf w := fun w => by simp [typeInfo, hinf]
      simp only [Sem.run_bind, rti, Result.andThen_ok, hs2]
      rw [if_neg hmax]
      simp only [Sem.run_bind, rti, Result.andThen_ok, hs2]
      rw [if_neg hb48]
      simp only [Sem.run_bind, rti, run_choose, Question.forced, Bool.false_eq_true, if_false, Result.andThen_ok, run_askRoom, o1, Bool.not_false, if_true, o2, z1, Builtin.zeroCells, newRow, run_newObj, Sem.run_pure]
      rw [zeros_eq]
      simp
     have rts : ∀ (v : V) (up : List (Nat × Ob)), (∀ (S : Type) (kk : Kk S), effAppend E h nx o.dst kk t s x = kk v up) → (∃ v' w' A' η', (Builtin.append_ c.argTypes o.type #[cs, cx]).run P w = .ok v' w' ∧ HStep gl m w A η h w' A' η' (ups up h) ∧ V.Rep w' A' η' (ups up h) v v') → (∀ i ∈ v.ids, ups up h i ≠ none) →
       Goal P gl m w A η h a o fun S kk => effAppend E h nx o.dst kk t s x := by
      rintro v up hkk ⟨v', w', A', η', g1, g2, g3⟩ g4
      exact ⟨v, up, hkk, _, v', w', A', η', by rw [start, g1]; rfl, .inl rfl, g2, g3, g4⟩
     have fresh : ∀ (h₀ : Nat → Option Ob) (A₀ : ASet), HStep gl m w A η h w A₀ η h₀ → ∀ (d : Nat), h₀ (nx + 64 * d) = none → ∀ (xs : List te.row.Ty) (l₁ : List Value) (n nc : Nat), RowsIn w A₀ te.row xs l₁ → xs.length + ys.length ≤ nc →
       HStep gl m w A η h { w with drawn := n, heap := w.heap.push (.cells (l₁ ++ lsrc ++ (List.replicate (nc - (xs.length + ys.length)) zv.cells.toList).flatten).toArray ti.elem) } A₀ (upd η (nx + 64 * d) (some w.heap.size)) (ovr h₀ (nx + 64 * d) (.arr te.row (xs ++ ys) false)) ∧
       V.Rep { w with drawn := n, heap := w.heap.push (.cells (l₁ ++ lsrc ++ (List.replicate (nc - (xs.length + ys.length)) zv.cells.toList).flatten).toArray ti.elem) } A₀ (upd η (nx + 64 * d) (some w.heap.size)) (ovr h₀ (nx + 64 * d) (.arr te.row (xs ++ ys) false)) (.own (nx + 64 * d)) (.slice (some ⟨w.heap.size, 0, none⟩) (xs.length + ys.length) nc) := by
      intro h₀ A₀ st d hd xs l₁ n nc hrows hnc
      have hsz : (l₁ ++ lsrc ++ (List.replicate (nc - (xs.length + ys.length)) zv.cells.toList).flatten).toArray.size = nc * te.row.len := by
       rw [List.size_toArray, List.length_append, List.length_append, zeros_size, z2, c1, hrows.length, s1.length, ← Nat.add_mul, ← Nat.add_mul]
       congr 1; omega
      have s1' : RowsIn w A₀ te.row ys lsrc := s1.mono st.still.imm
      have st2 := HStep.drew (gl := gl) (m := m) st.ok n
      have st3 := HStep.newArr (gl := gl) (m := m) st2.ok hd (by omega) (T := ti.elem) (cs := (l₁ ++ lsrc ++ (List.replicate (nc - (xs.length + ys.length)) zv.cells.toList).flatten).toArray) ((hrows.append s1').mono st2.still.imm)
       (fun j v hj => by rw [List.getElem?_toArray, List.getElem?_append_left (List.getElem?_eq_some_iff.1 hj).1]; exact hj) (by rw [hsz, List.length_append]; exact Nat.mul_le_mul_right _ hnc)
      refine ⟨(st.trans' st2).trans' st3, ?_⟩
      have := own_rep (w := { w with drawn := n, heap := w.heap.push (.cells (l₁ ++ lsrc ++ (List.replicate (nc - (xs.length + ys.length)) zv.cells.toList).flatten).toArray ti.elem) }) (A := A₀) (η := η) (h := h₀) (i := nx + 64 * d) (b := w.heap.size) (r := te.row) (xs := xs ++ ys) (cap := nc)
       (c := (l₁ ++ lsrc ++ (List.replicate (nc - (xs.length + ys.length)) zv.cells.toList).flatten).toArray) (T := ti.elem) (by simpa using hnc) (by simp) (by rw [hsz]; exact Nat.le_refl _)
      rwa [List.length_append] at this
     have void : ∀ (h₀ : Nat → Option Ob) (A₀ : ASet), HStep gl m w A η h w A₀ η h₀ → ∀ (d : Nat) (ad : Option Addr), h₀ (nx + 64 * d) = none →
       HStep gl m w A η h w A₀ (upd η (nx + 64 * d) none) (ovr h₀ (nx + 64 * d) (.arr te.row [] false)) ∧ V.Rep w A₀ (upd η (nx + 64 * d) none) (ovr h₀ (nx + 64 * d) (.arr te.row [] false)) (.own (nx + 64 * d)) (.slice ad 0 0) := by
      intro h₀ A₀ st d ad hd
      refine ⟨st.trans' (HStep.newNil (gl := gl) (m := m) st.ok hd (by omega)), ?_⟩
      simp only [V.Rep, OwnRep, ovr_same]
      exact .inl ⟨upd_same _ _ _, rfl, _, rfl⟩
     have nilcase : ∀ (h₀ : Nat → Option Ob) (A₀ : ASet), HStep gl m w A η h w A₀ η h₀ → ∀ (d : Nat) (ad : Option Addr), h₀ (nx + 64 * d) = none → cs = .slice ad 0 0 → ys.length * te.bytes ≤ bytesMost →
       ∃ v' w' A' η', (Builtin.append_ c.argTypes o.type #[cs, cx]).run P w = .ok v' w' ∧ HStep gl m w A η h w' A' η' (ovr h₀ (nx + 64 * d) (.arr te.row ys false)) ∧ V.Rep w' A' η' (ovr h₀ (nx + 64 * d) (.arr te.row ys false)) (.own (nx + 64 * d)) v' := by
      intro h₀ A₀ st d ad hd ecs hbytes
      by_cases hy0 : ys = []
      ·obtain ⟨g1, g2⟩ := void h₀ A₀ st d ad hd
       have := room ad 0 0 ecs (by rw [hy0]; simp)
       subst hy0
       have hl0 : lsrc = [] := by have := s1.length; simpa using this
       exact ⟨_, _, A₀, _, by rw [this, hl0]; cases ad <;> simp [storeCells, storeCells, Result.andThen], g1, g2⟩
      ·have hlen : 0 < ys.length := List.length_pos_iff.2 hy0
       obtain ⟨n, nc, hnc, hrun⟩ := grow ad 0 0 ecs (by simpa using hbytes) (Nat.le_refl _) (by simp; try omega) [] lsrc (fun n => by
        rw [ecs]
        cases ad with
        | none => simp [Builtin.firstCells]
        | some ad =>
          have := run_loadCells_list (P := P) { w with drawn := n } ad [] (by simp)
          simpa [Builtin.firstCells] using this) (fun n => s3 n)
       obtain ⟨g1, g2⟩ := fresh h₀ A₀ st d hd [] [] n nc (by simp only [RowsIn]) (by simpa using hnc)
       simp only [List.length_nil, List.nil_append] at g1 g2
       exact ⟨_, _, A₀, _, hrun, g1, g2⟩
     split at hv
     ·
      by_cases hb : ys.length * te.bytes ≤ bytesMost
      ·rw [decide_eq_true hb, cond_true] at hv
       obtain ⟨d, hd, hn, hkk⟩ := new_some hv
       simp only [V.Rep] at hrs
       refine rts _ _ (fun S kk => by simp only [effAppend, h1, hk, h2, hys, if_pos (show te.size = te.row.len ∧ 0 < te.size ∧ 0 < te.bytes from ⟨c1, c2, c3⟩), decide_eq_true hb, cond_true]; exact hkk S kk) ?_ ?_
       ·rw [ups_cons, ups_nil]; exact nilcase h A (.refl hs.heap) d none hn hrs hb
       ·intro j hj; simp only [V.ids, List.mem_singleton] at hj; subst hj; rw [ups_cons, ovr_same]; simp
      ·rw [decide_eq_false hb, cond_false] at hv; cases hv
     ·
      rename_i r₀ z
      simp only [V.Rep] at hrs
      obtain ⟨ad, cap, ecs, hz, hsA⟩ := hrs
      cases z with
      | true =>
        rw [cond_true] at hv
        have hcap := hz rfl
        subst hcap
        by_cases hb : ys.length * te.bytes ≤ bytesMost
        ·rw [decide_eq_true hb, cond_true] at hv
         obtain ⟨d, hd, hn, hkk⟩ := new_some hv
         refine rts _ _ (fun S kk => by simp only [effAppend, h1, hk, h2, hys, if_pos (show te.size = te.row.len ∧ 0 < te.size ∧ 0 < te.bytes from ⟨c1, c2, c3⟩), decide_eq_true hb, cond_true]; exact hkk S kk) ?_ ?_
         ·rw [ups_cons, ups_nil]; exact nilcase h A (.refl hs.heap) d (some ad) hn ecs hb
         ·intro j hj; simp only [V.ids, List.mem_singleton] at hj; subst hj; rw [ups_cons, ovr_same]; simp
        ·rw [decide_eq_false hb, cond_false] at hv; cases hv
      | false =>
        rw [cond_false] at hv
        cases ys with
        | nil =>
          have hl0 : lsrc = [] := by have := s1.length; simpa using this
          have hrun := room (some ad) 0 cap ecs (by simp)
          refine rts (.emp r₀ false) [] (fun S kk => by simp only [effAppend, h1, hk, h2, hys, if_pos (show te.size = te.row.len ∧ 0 < te.size ∧ 0 < te.bytes from ⟨c1, c2, c3⟩), cond_false]) ⟨.slice (some ad) 0 cap, w, A, η, by rw [hrun, hl0]; simp [storeCells], .refl hs.heap, ?_⟩ (by simp [V.ids])
          simp only [V.Rep]
          exact ⟨ad, cap, rfl, hz, hsA⟩
        | cons y ys' => cases hv
     ·
      rename_i i
      split at hv
      ·rename_i r₀ xs hi
       split at hv
       ·rename_i e heq
        subst e
        by_cases hb : (xs.length + ys.length) * te.bytes ≤ bytesMost
        ·rw [decide_eq_true hb, cond_true] at hv
         obtain ⟨d, hd, hn, hkk⟩ := new_some hv
         have hne : i ≠ nx + 64 * d := fun e => by rw [← e, hi] at hn; cases hn
         have hn' : ovr h i .dead (nx + 64 * d) = none := by rw [ovr_ne _ _ hne]; exact hn
         have kill := HStep.kill (gl := gl) (m := m) hs.heap i
         refine rts _ _ (fun S kk => by simp only [effAppend, h1, hk, h2, hys, if_pos (show te.size = te.row.len ∧ 0 < te.size ∧ 0 < te.bytes from ⟨c1, c2, c3⟩), hi, heq, decide_eq_true hb, cond_true]; exact hkk S kk) ?_ ?_
         ·rw [ups_cons, ups_cons, ups_nil]
          simp only [V.Rep, OwnRep, hi] at hrs
          show ∃ v' w' A' η', _ ∧ HStep gl m w A η h w' A' η' (ovr (ovr h i .dead) (nx + 64 * d) (.arr te.row (xs ++ ys) false)) ∧ V.Rep w' A' η' (ovr (ovr h i .dead) (nx + 64 * d) (.arr te.row (xs ++ ys) false)) (.own (nx + 64 * d)) v'
          rcases hrs with ⟨h3, h4, ad, h5⟩ | ⟨b, cap, c', T, h3, h4, h5, h6, h7⟩
          ·subst h4
           have hb' : ys.length * te.bytes ≤ bytesMost := by simpa using hb
           rw [List.nil_append]
           exact nilcase _ A kill d ad hn' h5 hb'
          ·
           rcases hs.heap.ob i _ hi with ⟨g1, _⟩ | ⟨b', c'', T', g1, g2, g3, g4, g5⟩
           ·rw [g1] at h3; cases h3
           ·rw [g1] at h3; cases h3
            rw [h6] at g2; cases g2
            obtain ⟨lold, o1, o2⟩ := RowsIn.of_rep (o := 0) (fun k y hy => by rw [Nat.zero_add]; exact g5 k y hy)
            by_cases hle : xs.length + ys.length ≤ cap
            ·
             have hfit : xs.length * te.size + lsrc.length ≤ c'.size := by
              rw [s1.length, c1, ← Nat.add_mul]
              exact Nat.le_trans (Nat.mul_le_mul_right _ hle) h7
             have hstore := run_storeBlock (P := P) h6 hfit s1.cells_of
             have hrun := room (some ⟨b, 0, none⟩) xs.length cap h4 hle
             simp only [add_plain, Nat.zero_add, hstore, Result.andThen_ok] at hrun
             have hsz : (c'.toList.take (xs.length * te.size) ++ (lsrc ++ c'.toList.drop (xs.length * te.size + lsrc.length))).toArray.size = c'.size := by
              simp; omega
             have hlold : c'.toList.take (xs.length * te.size) = lold := by
              have hl := o1.length
              apply List.ext_getElem?
              intro j
              by_cases hj : j < lold.length
              ·obtain ⟨v, hv'⟩ : ∃ v, lold[j]? = some v := ⟨_, List.getElem?_eq_getElem hj⟩
               obtain ⟨c₁, T₁, f₁, e1, e2⟩ := o2 j v hv'
               rw [h6] at e1; cases e1
               rw [hv', List.getElem?_take, if_pos (by rw [c1, ← hl]; exact hj)]
               simpa using e2
              ·rw [List.getElem?_take, if_neg (by rw [c1, ← hl]; exact hj), List.getElem?_eq_none (by omega)]
             have hmut : Mut h i := by unfold Mut; rw [hi]; trivial
             have hlt : b < w.heap.size := (Array.getElem?_eq_some_iff.1 h6).1
             have hget : ∀ C : Array Value, (w.heap.setIfInBounds b (.cells C T (0, 0)))[b]? = some (.cells C T (0, 0)) := fun C => by simp [hlt]
             have mv := HStep.move (gl := gl) (m := m) (o' := .arr te.row (xs ++ ys) false) (x := .cells (c'.toList.take (xs.length * te.size) ++ (lsrc ++ c'.toList.drop (xs.length * te.size + lsrc.length))).toArray T) hs.heap (.of h6 (by intro rec e; cases e)) (by intro c T fz e; cases e <;> rfl) hi hmut g1 hn (by omega) (by simp [Ob.ids]) fun st => by
              refine .inr ⟨b, _, T, upd_same _ _ _, hget _, ?_, by simp, fun k y hy => ?_⟩
              ·rw [hsz, List.length_append]; exact Nat.le_trans (Nat.mul_le_mul_right _ hle) h7
              ·have := ((o1.append s1).mono st.imm).rep (b := b) (o := 0) (fun j v hj => ⟨_, T, (0, 0), hget _, by
                 rw [Nat.zero_add, List.getElem?_toArray, hlold, ← List.append_assoc, List.getElem?_append_left (List.getElem?_eq_some_iff.1 hj).1]; exact hj⟩) k y hy
               rwa [Nat.zero_add] at this
             refine ⟨_, _, A, _, hrun, mv, ?_⟩
             simp only [V.Rep, OwnRep, ovr_same]
             exact .inr ⟨b, cap, _, T, upd_same _ _ _, by rw [List.length_append], by rw [List.length_append]; exact hle, hget _, by rw [hsz]; exact h7⟩
            ·obtain ⟨n, nc, hnc, hrun⟩ := grow (some ⟨b, 0, none⟩) xs.length cap h4 hb h5 hle lold lsrc (fun n => by
               rw [h4]
               have := run_loadCells_list (P := P) { w with drawn := n } ⟨b, 0, none⟩ lold (fun j v hj => by rw [add_plain]; exact (o2 j v hj).cell?)
               rw [o1.length] at this
               simpa [Builtin.firstCells] using this) (fun n => s3 n)
             obtain ⟨q1, q2⟩ := fresh _ A kill d hn' xs lold n nc o1 hnc
             exact ⟨_, _, A, _, hrun, q1, q2⟩
         ·intro j hj; simp only [V.ids, List.mem_singleton] at hj; subst hj; rw [ups_cons, ovr_same]; simp
        ·rw [decide_eq_false hb, cond_false] at hv; cases hv
       ·cases hv
      ·cases hv
     ·cases hv
    ·cases hv
  ·cases hv
 ·cases hv
end ops
end Vm
