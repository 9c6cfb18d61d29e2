/- The statement VoiceSounds, as a run of the value machine. -/
import Derived.Test.YtgkanaehhjkieaaDoorLawH
import Derived.Test.YtgkanaehhjkieaaDoorVmE
import Derived.KernelRfl
import Derived.Test.YtgkanaehhjkieaaDoorEnv
import Derived.Lay
import Derived.Test.YtgkanaehhjkieaaDoorRows
set_option maxRecDepth 100000
/- Made voices are right, in plain words. -/
open Go
namespace Vm
def insR (p : Pt) : List Pt → List Pt
  | [] => [p]
  | q :: r => if Pt.cmp q p < 0 then q :: insR p r else p :: q :: r
theorem insW_cons (p q : Pt) (r : List Pt) : insW p (q :: r) = if Pt.cmp q p < 0 then q :: insW p r else p :: q :: r := by
  unfold insW
  rw [posW]
  by_cases h : Pt.cmp q p < 0
  · rw [if_pos h, if_pos h]; rfl
  · rw [if_neg h, if_neg h]; rfl
theorem insW_eq (p : Pt) : ∀ ps, insW p ps = insR p ps
  | [] => rfl
  | q :: r => by rw [insW_cons, insR, insW_eq p r]
def ltP (a b : Pt) : Prop := a.num < b.num ∨ (a.num = b.num ∧ a.line < b.line)
theorem cmp_lt {a b : Pt} (ha : a.right = true) (hb : b.right = true) : Pt.cmp a b < 0 ↔ ltP a b := by
  unfold Pt.cmp ltP sgn
  rw [ha, hb]
  simp only [Bool.and_self, if_true]
  repeat' split
  all_goals omega
theorem cmp_gt {a b : Pt} (ha : a.right = true) (hb : b.right = true) : Pt.cmp a b > 0 ↔ ltP b a := by
  unfold Pt.cmp ltP sgn
  rw [ha, hb]
  simp only [Bool.and_self, if_true]
  repeat' split
  all_goals omega
theorem ltP_or {a b : Pt} (ha : a.right = true) (hb : b.right = true) (h1 : ¬ ltP a b) (h2 : ¬ ltP b a) : a = b := by
  unfold ltP at h1 h2
  exact Pt.ext ha hb (by omega) (by omega)
theorem ltP_trans {a b c : Pt} (h1 : ltP a b) (h2 : ltP b c) : ltP a c := by
  unfold ltP at *
  omega
theorem insW_mem (p x : Pt) (ps : List Pt) : x ∈ insW p ps ↔ x = p ∨ x ∈ ps := by
  unfold insW
  rw [List.mem_append, List.mem_append, List.mem_singleton]
  constructor
  · rintro ((h | h) | h)
    · exact .inr (List.mem_of_mem_take h)
    · exact .inl h
    · exact .inr (List.mem_of_mem_drop h)
  · rintro (h | h)
    · exact .inl (.inr h)
    · have := List.take_append_drop (posW p ps) ps
      rw [← this, List.mem_append] at h
      exact h.imp .inl id
theorem hasW_mem {p : Pt} {ps : List Pt} (h : hasW p ps = true) : p ∈ ps := by
  unfold hasW at h
  split at h
  · rename_i q hq
    rw [beqP_eq] at h
    have := of_decide_eq_true h
    subst this
    exact List.mem_of_getElem? hq
  · cases h
/-- they rise -/
theorem risesP_ins {p : Pt} (hp : p.right = true) : ∀ {ps : List Pt}, (∀ q ∈ ps, q.right = true) → p ∉ ps → risesP ps = true → risesP (insR p ps) = true
  | [], _, _, _ => rfl
  | [q], hr, hn, _ => by
    have hq := hr q (by simp)
    simp only [insR]
    split
    · rename_i h
      rw [cmp_lt hq hp] at h
      simp only [risesP, Bool.and_true, decide_eq_true_eq]
      exact (cmp_gt hp hq).2 h
    · rename_i h
      rw [cmp_lt hq hp] at h
      simp only [risesP, Bool.and_true, decide_eq_true_eq]
      refine (cmp_gt hq hp).2 ?_
      by_cases h2 : ltP p q
      · exact h2
      · exact absurd (ltP_or hp hq h2 h) (fun e => hn (by simp [e]))
  | q :: s :: r, hr, hn, hs => by
    have hq := hr q (by simp)
    have hss := hr s (by simp)
    simp only [risesP, Bool.and_eq_true, decide_eq_true_eq] at hs
    have ih := risesP_ins hp (ps := s :: r) (fun x hx => hr x (List.mem_cons_of_mem _ hx)) (fun h => hn (List.mem_cons_of_mem _ h)) hs.2
    simp only [insR]
    split
    · rename_i h
      have h' := (cmp_lt hq hp).1 h
      simp only [insR] at ih
      split
      · rename_i h2
        rw [if_pos h2] at ih
        simp only [risesP, Bool.and_eq_true, decide_eq_true_eq]
        exact ⟨hs.1, ih⟩
      · rename_i h2
        rw [if_neg h2] at ih
        simp only [risesP, Bool.and_eq_true, decide_eq_true_eq] at ih ⊢
        exact ⟨(cmp_gt hp hq).2 h', ih⟩
    · rename_i h
      rw [cmp_lt hq hp] at h
      simp only [risesP, Bool.and_eq_true, decide_eq_true_eq]
      refine ⟨(cmp_gt hq hp).2 ?_, hs⟩
      by_cases h2 : ltP p q
      · exact h2
      · exact absurd (ltP_or hp hq h2 h) (fun e => hn (by simp [e]))
theorem risesP_lt {q : Pt} : ∀ {r : List Pt}, (∀ x ∈ q :: r, x.right = true) → risesP (q :: r) = true → ∀ x ∈ r, ltP q x
  | [], _, _, x, hx => by cases hx
  | s :: r, hr, hs, x, hx => by
    simp only [risesP, Bool.and_eq_true, decide_eq_true_eq] at hs
    have h1 := (cmp_gt (hr s (by simp)) (hr q (by simp))).1 hs.1
    rcases List.mem_cons.1 hx with rfl | hx
    · exact h1
    · exact ltP_trans h1 (risesP_lt (fun y hy => hr y (List.mem_cons_of_mem _ hy)) hs.2 x hx)
theorem ltP_irrefl (p : Pt) : ¬ ltP p p := by unfold ltP; omega
theorem risesP_tail {q : Pt} {r : List Pt} (h : risesP (q :: r) = true) : risesP r = true := by
  cases r with
  | nil => rfl
  | cons s r => simp only [risesP, Bool.and_eq_true] at h; exact h.2
theorem hasW_cons (p q : Pt) (r : List Pt) : hasW p (q :: r) = if Pt.cmp q p < 0 then hasW p r else beqP q p := by
  unfold hasW
  rw [posW]
  by_cases h : Pt.cmp q p < 0
  · rw [if_pos h, if_pos h]; rfl
  · rw [if_neg h, if_neg h]; rfl
theorem hasW_of {p : Pt} (hp : p.right = true) : ∀ {ps : List Pt}, (∀ q ∈ ps, q.right = true) → risesP ps = true → p ∈ ps → hasW p ps = true
  | [], _, _, h => by cases h
  | q :: r, hr, hs, h => by
    have hq := hr q (by simp)
    rw [hasW_cons]
    rcases List.mem_cons.1 h with rfl | h
    · rw [if_neg (by rw [cmp_lt hq hq]; exact ltP_irrefl _), beqP_eq]
      simp
    · have := risesP_lt hr hs p h
      rw [if_pos ((cmp_lt hq hp).2 this)]
      exact hasW_of hp (fun x hx => hr x (List.mem_cons_of_mem _ hx)) (risesP_tail hs) h
/-- a pitch that is made -/
def madeP (p : Pt) : Prop := 0 ≤ p.1 ∧ p.1 ≤ 6 ∧ p.2.1 = 0 ∧ 4 ≤ p.2.2 ∧ p.2.2 ≤ 5
theorem madeP_right {p : Pt} (h : madeP p) : p.right = true := by
  obtain ⟨h1, h2, h3, h4, h5⟩ := h
  have hh := Pt.half_le h1 h2
  rw [Pt.right_iff]
  refine ⟨h1, h2, by omega, by omega, by omega, by omega, ?_, ?_⟩ <;> (unfold Pt.num; omega)
theorem newP_made {l : List Int} (hb : bytesOk l = true) (n : Nat) : madeP (newP l n) := by
  have r := mkB_range hb n
  have r' := mkB_range hb (mkN l n)
  have t1 := Int.tmod_nonneg 7 r.1
  have t2 := Int.tmod_lt_of_pos (mkB l n) (b := 7) (by omega)
  have t3 := Int.tmod_nonneg 2 r'.1
  have t4 := Int.tmod_lt_of_pos (mkB l (mkN l n)) (b := 2) (by omega)
  refine ⟨t1, ?_, rfl, ?_, ?_⟩
  · show (mkB l n).tmod 7 ≤ 6; omega
  · show 4 ≤ 4 + (mkB l (mkN l n)).tmod 2; omega
  · show 4 + (mkB l (mkN l n)).tmod 2 ≤ 5; omega
/-- what holds of an event that is made: its pitches are made ones and rise -/
def Mk.good (m : Nat) : Mk → Prop
  | none => True
  | some (ps, ts) => ps ≠ [] ∧ ts.length = ps.length ∧ ps.length ≤ m ∧ (∀ p ∈ ps, madeP p) ∧ risesP ps = true
theorem withS_good {m : Nat} {o : Mk} (h : o.good m) {p : Pt} (hp : madeP p) : (withS o p).good (m + 1) := by
  match o, h with
  | none, _ => exact ⟨by simp, rfl, by simp, by simpa using hp, rfl⟩
  | some (ps, ts), h =>
    obtain ⟨h1, h2, h3, h4, h5⟩ := h
    simp only [withS]
    by_cases hh : hasW p ps = true
    · rw [if_pos hh]; exact ⟨h1, h2, by omega, h4, h5⟩
    · rw [if_neg hh]
      have hl := insW_len p ps
      have hn : p ∉ ps := fun hm => hh (hasW_of (madeP_right hp) (fun q hq => madeP_right (h4 q hq)) h5 hm)
      refine ⟨fun e => by rw [e] at hl; simp at hl, by simp [hl], by omega, fun q hq => ?_, ?_⟩
      · rcases (insW_mem p q ps).1 hq with rfl | hq
        · exact hp
        · exact h4 q hq
      · rw [insW_eq]
        exact risesP_ins (madeP_right hp) (fun q hq => madeP_right (h4 q hq)) hn h5
theorem Mk.good_mono {m k : Nat} {o : Mk} (h : o.good m) (hk : m ≤ k) : o.good k := by
  match o, h with
  | none, _ => trivial
  | some (ps, ts), h => exact ⟨h.1, h.2.1, Nat.le_trans h.2.2.1 hk, h.2.2.2⟩
theorem carryS_good : ∀ (ps : List Pt) (ts : List Bool) (m : Nat) (o : Mk), (∀ p ∈ ps, madeP p) → o.good m → (carryS ps ts o).good (m + ts.length)
  | [], ts, m, o, _, h => by unfold carryS; exact Mk.good_mono h (by omega)
  | p :: ps, [], m, o, _, h => by unfold carryS; exact Mk.good_mono h (by omega)
  | p :: ps, t :: ts, m, o, hp, h => by
    simp only [carryS]
    have : (if t then withS o p else o).good (m + 1) := by
      cases t with
      | true => exact withS_good h (hp p (by simp))
      | false => exact Mk.good_mono h (by omega)
    exact Mk.good_mono (carryS_good ps ts (m + 1) _ (fun q hq => hp q (List.mem_cons_of_mem _ hq)) this) (by simp only [List.length_cons]; omega)
theorem moreS_good {l : List Int} (hb : bytesOk l = true) : ∀ (k n m : Nat) (o : Mk), o.good m → (moreS l k n o).1.good (m + k)
  | 0, n, m, o, h => h
  | k + 1, n, m, o, h => Mk.good_mono (moreS_good hb k _ (m + 1) _ (withS_good h (newP_made hb n))) (by omega)
/-- what holds of a made event -/
def Ev.good (e : Ev) : Prop := e.pitches.length = e.ties.length ∧ e.pitches.length ≤ 8 ∧ (∀ p ∈ e.pitches, madeP p)
theorem mkV_right {l : List Int} (hb : bytesOk l = true) (n : Nat) : Vl.right (mkV l n) = true := by
  have r0 := mkB_range hb n
  have r1 := mkB_range hb (mkN l n)
  have t1 := Int.tmod_nonneg 4 r0.1
  have t2 := Int.tmod_lt_of_pos (mkB l n) (b := 4) (by omega)
  have t3 := Int.tmod_nonneg 5 r1.1
  have t4 := Int.tmod_lt_of_pos (mkB l (mkN l n)) (b := 5) (by omega)
  have t5 : 0 ≤ ((mkB l (mkN l n)).tmod 5).tdiv 4 ∧ ((mkB l (mkN l n)).tmod 5).tdiv 4 ≤ 1 := by
    rw [Int.tdiv_eq_ediv_of_nonneg t3]; omega
  have e1 : (mkV l n).1 = 1 + (mkB l n).tmod 4 := rfl
  have e2 : (mkV l n).2.1 = ((mkB l (mkN l n)).tmod 5).tdiv 4 := rfl
  have e3 : ((mkV l n).2.2.1 = 0 ∧ (mkV l n).2.2.2 = 0) ∨ ((mkV l n).2.2.1 = 3 ∧ (mkV l n).2.2.2 = 2) := by
    simp only [mkV]
    split
    · exact .inr ⟨rfl, rfl⟩
    · exact .inl ⟨rfl, rfl⟩
  unfold Vl.right
  refine decide_eq_true ?_
  refine ⟨by omega, by omega, by omega, by omega, ?_⟩
  rcases e3 with h | h
  · exact .inl h
  · rw [h.1, h.2]
    exact .inr (by decide)
theorem marksS_right {l : List Int} (hb : bytesOk l = true) (n : Nat) : marked (marksS l n).1 = true := by
  have r := mkB_range hb (mkN l n)
  have t1 := Int.tmod_nonneg 4 r.1
  have t2 := Int.tmod_lt_of_pos (mkB l (mkN l n)) (b := 4) (by omega)
  unfold marksS
  split
  · simp only [marked, List.all_cons, List.all_nil, Bool.and_true, risesI, Bool.and_eq_true, decide_eq_true_eq]
    exact ⟨by omega, by omega⟩
  · rfl
theorem endS_right {l : List Int} (hb : bytesOk l = true) {v : Vl} (hv : Vl.right v = true) : ∀ {q : Mk × Nat}, q.1.good 8 → (endS l v q).1.right = true ∧ (endS l v q).1.good
  | (none, n), _ => by
    refine ⟨?_, rfl, Nat.zero_le _, fun p hp => by cases hp⟩
    show (Vl.right v && (plain [] && (marked [] && (decide (0 = 0) && (if (0 : Int) = 0 then decide (0 = 0) && (decide (([] : List UInt8) = []) && ([] : List Int).all (fun m => decide (m = 4))) else _))))) = true
    rw [hv, plain_nil]
    rfl
  | (some (ps, ts), n), h => by
    obtain ⟨h1, h2, h3, h4, h5⟩ := h
    have hm := marksS_right hb n
    have ht := tiesS_len l ts (marksS l n).2
    have hl : 1 ≤ ps.length := by
      cases ps with
      | nil => exact absurd rfl h1
      | cons a r => simp
    refine ⟨?_, by show ps.length = (tiesS l ts _).1.length; rw [ht, h2], h3, h4⟩
    show (Vl.right v && (plain [] && (marked (marksS l n).1 && (decide ((tiesS l ts (marksS l n).2).1.length = ps.length) && (if (1 : Int) = 0 then _ else decide ((1 : Int) = 1) && (decide (1 ≤ ps.length) && (decide (ps.length ≤ 8) && (ps.all Pt.right && risesP ps)))))))) = true
    rw [hv, plain_nil, hm, ht, h2, h5, List.all_eq_true.2 (fun p hp => madeP_right (h4 p hp)), decide_eq_true hl, decide_eq_true h3, if_neg (by decide), decide_eq_true rfl]
    rfl
theorem Mk.good_self {m : Nat} {ps : List Pt} {ts : List Bool} (h : Mk.good m (some (ps, ts))) : Mk.good ps.length (some (ps, ts)) := ⟨h.1, h.2.1, Nat.le_refl _, h.2.2.2⟩
theorem firstS_good {a : Ev} (h : a.good) : (firstS a).good 8 := by
  have := carryS_good a.pitches a.ties 0 none h.2.2 trivial
  exact Mk.good_mono this (by have := h.1; have := h.2.1; omega)
theorem moreE_good {l : List Int} (hb : bytesOk l = true) (n k : Nat) {o : Mk} (h : o.good 8) (b : Int) (h0 : 0 ≤ b) (h1 : b ≤ 255) : (moreS l (countS o b).toNat k o).1.good 8 := by
  have t1 := Int.tmod_nonneg 4 h0
  have t2 := Int.tmod_lt_of_pos b (b := 4) (by omega)
  match o, h with
  | none, _ => exact Mk.good_mono (moreS_good hb _ k 0 none trivial) (by simp only [countS]; omega)
  | some (ps, ts), h =>
    have hh := moreS_good hb (countS (some (ps, ts)) b).toNat k _ _ (Mk.good_self h)
    refine Mk.good_mono hh ?_
    have h3 := h.2.2.1
    simp only [countS]
    split
    · simpa using h3
    · rw [Int.tdiv_eq_ediv_of_nonneg t1]
      omega
theorem eventS_right {l : List Int} (hb : bytesOk l = true) (n : Nat) {a : Ev} (h : a.good) : (eventS l n a).1.right = true ∧ (eventS l n a).1.good := by
  have r := mkB_range hb (mkVN l n)
  exact endS_right hb (mkV_right hb n) (moreE_good hb n _ (firstS_good h) _ r.1 r.2)
theorem loose_right {e : Ev} (h : e.right = true ∧ e.good) : e.loose.right = true ∧ e.loose.good := by
  refine ⟨?_, by show e.2.1.length = (List.replicate e.2.1.length false).length; rw [List.length_replicate], h.2.2.1, h.2.2.2⟩
  have hr := h.1
  rw [Ev.right_eq] at hr ⊢
  simp only [Bool.and_eq_true] at hr ⊢
  refine ⟨hr.1, hr.2.1, hr.2.2.1, ?_, hr.2.2.2.2⟩
  show decide ((List.replicate e.2.1.length false).length = e.2.1.length) = true
  rw [List.length_replicate]
  exact decide_eq_true rfl
theorem lastS_right {b : Bool} {k : Nat} {e : Ev} (h : e.right = true ∧ e.good) : (lastS b k e).right = true ∧ (lastS b k e).good := by
  unfold lastS
  split
  · split
    · exact loose_right h
    · exact h
  · exact h
theorem zEv_good : zEv.good := ⟨rfl, Nat.zero_le _, fun p hp => by cases hp⟩
theorem madeS_right {l : List Int} (hb : bytesOk l = true) (b : Bool) : ∀ (k n : Nat) (a : Ev), a.good → ∀ e ∈ madeS l b k n a, e.right = true ∧ e.good
  | 0, _, _, _, e, he => by cases he
  | k + 1, n, a, h, e, he => by
    have h1 := lastS_right (b := b) (k := k) (eventS_right hb n h)
    rw [madeS] at he
    rcases List.mem_cons.1 he with rfl | he
    · exact h1
    · exact madeS_right hb b k _ _ h1.2 e he
theorem madeV_right {l : List Int} {m : Int} (b : Bool) (hb : bytesOk (l.take 400) = true) : ∀ e ∈ madeV l m b, e.right = true ∧ e.good :=
  madeS_right hb b _ _ zEv zEv_good
end Vm

/- A made voice is a right one: what is tied is in the next event. -/
open Go
namespace Vm
/-- a pitch is there -/
def Mk.has (o : Mk) (p : Pt) : Prop := match o with
  | none => False
  | some (ps, _) => p ∈ ps
theorem withS_self (o : Mk) (p : Pt) : (withS o p).has p := by
  match o with
  | none => exact List.mem_singleton.2 rfl
  | some (ps, ts) =>
    simp only [withS]
    split
    · rename_i h; exact hasW_mem h
    · exact (insW_mem p p ps).2 (.inl rfl)
theorem withS_keeps {o : Mk} {q : Pt} (p : Pt) (h : o.has q) : (withS o p).has q := by
  match o, h with
  | some (ps, ts), h =>
    simp only [withS]
    split
    · exact h
    · exact (insW_mem p q ps).2 (.inr h)
theorem carryS_keeps {q : Pt} : ∀ (ps : List Pt) (ts : List Bool) (o : Mk), o.has q → (carryS ps ts o).has q
  | [], ts, o, h => by unfold carryS; exact h
  | p :: ps, [], o, h => by unfold carryS; exact h
  | p :: ps, t :: ts, o, h => by
    simp only [carryS]
    refine carryS_keeps ps ts _ ?_
    split
    · exact withS_keeps p h
    · exact h
theorem carryS_has {q : Pt} : ∀ (ps : List Pt) (ts : List Bool) (o : Mk), tiedIn ps ts q = true → (carryS ps ts o).has q
  | [], ts, o, h => by simp [tiedIn] at h
  | p :: ps, [], o, h => by simp [tiedIn] at h
  | p :: ps, t :: ts, o, h => by
    simp only [tiedIn, Bool.or_eq_true, Bool.and_eq_true, decide_eq_true_eq] at h
    simp only [carryS]
    rcases h with ⟨h1, h2⟩ | h
    · subst h2
      rw [if_pos h1]
      exact carryS_keeps ps ts _ (withS_self o q)
    · exact carryS_has ps ts _ h
theorem moreS_keeps {l : List Int} {q : Pt} : ∀ (k n : Nat) (o : Mk), o.has q → (moreS l k n o).1.has q
  | 0, n, o, h => h
  | k + 1, n, o, h => moreS_keeps k _ _ (withS_keeps _ h)
theorem endS_has {l : List Int} {v : Vl} {q : Pt} : ∀ {o : Mk × Nat}, o.1.has q → q ∈ (endS l v o).1.pitches
  | (some (ps, ts), n), h => h
theorem eventS_has {l : List Int} {n : Nat} {a : Ev} {q : Pt} (h : a.tied q = true) : q ∈ (eventS l n a).1.pitches :=
  endS_has (moreS_keeps _ _ _ (carryS_has _ _ none h))
theorem lastS_pitches (b : Bool) (k : Nat) (e : Ev) : (lastS b k e).pitches = e.pitches := by
  unfold lastS
  split
  · split <;> rfl
  · rfl
theorem joined_of {a b : Ev} (h : ∀ q, a.tied q = true → q ∈ b.pitches) : joined a b = true := by
  refine List.all_eq_true.2 fun y hy => ?_
  rw [List.contains_iff_mem]
  exact h _ ((Ev.tm_keys a y.1).1 ⟨y.2, hy⟩)
theorem joined_tied {a b : Ev} (h : joined a b = true) {q : Pt} (hq : a.tied q = true) : q ∈ b.pitches := by
  obtain ⟨c, hc⟩ := (Ev.tm_keys a q).2 hq
  have := List.all_eq_true.1 h _ hc
  rwa [List.contains_iff_mem] at this
theorem tieI_made (l : List Int) (b : Bool) : ∀ (k n : Nat) (a : Ev) (i : Nat), tieI (a :: madeS l b k n a) i = -1
  | 0, n, a, i => rfl
  | k + 1, n, a, i => by
    rw [madeS, tieI, if_pos (joined_of fun q hq => by rw [lastS_pitches]; exact eventS_has hq)]
    exact tieI_made l b k _ _ _
theorem tieI_madeV (l : List Int) (m : Int) (b : Bool) : tieI (madeV l m b) 0 = -1 := by
  unfold madeV
  cases (madeN l m).toNat with
  | zero => rfl
  | succ k => rw [madeS]; exact tieI_made _ _ _ _ _ _
/-- a voice is right -/
theorem chk_ok {v : Vo} (h1 : v.length ≤ 64) (h2 : ∀ e ∈ v, e.right = true) (h3 : tieI v 0 = -1) : Vo.chk v = (0, 0) := by
  unfold Vo.chk
  rw [if_neg (by omega), badI_neg (List.all_eq_true.2 h2), if_neg (by decide), h3, if_neg (by decide)]
theorem madeV_chk {l : List Int} {m : Int} (b : Bool) (hb : bytesOk (l.take 400) = true) (hm : 0 ≤ m ∧ m ≤ 64) : Vo.chk (madeV l m b) = (0, 0) :=
  chk_ok (by have := (madeV_len b hb hm.1).2; omega) (fun e he => (madeV_right b hb e he).1) (tieI_madeV l m b)
theorem tieI_iff : ∀ (v : Vo) (i : Nat), tieI v i = -1 ↔ ∀ k a b, v[k]? = some a → v[k + 1]? = some b → joined a b = true
  | [], i => by simp [tieI]
  | [a], i => by
    refine ⟨fun _ k x y h1 h2 => ?_, fun _ => rfl⟩
    simp at h2
  | a :: b :: r, i => by
    rw [tieI]
    have ih := tieI_iff (b :: r) (i + 1)
    by_cases h : joined a b = true
    · rw [if_pos h, ih]
      constructor
      · intro hh k x y h1 h2
        cases k with
        | zero => cases h1; cases h2; exact h
        | succ k => exact hh k x y h1 h2
      · intro hh k x y h1 h2
        exact hh (k + 1) x y h1 h2
    · rw [if_neg h]
      constructor
      · intro hh; omega
      · intro hh; exact absurd (hh 0 a b rfl rfl) h
theorem tieI_append {v w : Vo} (h1 : tieI v 0 = -1) (h2 : tieI w 0 = -1) (h3 : ∀ e, v.getLast? = some e → ∀ q, e.tied q = false) : tieI (v ++ w) 0 = -1 := by
  rw [tieI_iff] at h1 h2 ⊢
  intro k a b ha hb
  by_cases hk : k + 1 < v.length
  · rw [List.getElem?_append_left (by omega)] at ha
    rw [List.getElem?_append_left hk] at hb
    exact h1 k a b ha hb
  · rw [List.getElem?_append_right (by omega)] at hb
    by_cases hk2 : k < v.length
    · rw [List.getElem?_append_left hk2] at ha
      have : v.getLast? = some a := by
        rw [List.getLast?_eq_getElem?, show v.length - 1 = k by omega]
        exact ha
      exact joined_of fun q hq => by rw [h3 a this q] at hq; cases hq
    · rw [List.getElem?_append_right (by omega)] at ha
      refine h2 (k - v.length) a b ha ?_
      rw [← hb]; congr 1; omega
/-- the last event of a voice that is made so ties nothing -/
theorem tiedIn_false (q : Pt) : ∀ (ps : List Pt) (n : Nat), tiedIn ps (List.replicate n false) q = false
  | [], n => by simp [tiedIn]
  | p :: ps, 0 => by simp [tiedIn]
  | p :: ps, n + 1 => by
    rw [List.replicate_succ, tiedIn, tiedIn_false q ps n]
    simp
theorem loose_tied (e : Ev) (q : Pt) : e.loose.tied q = false := tiedIn_false q _ _
theorem madeS_last (l : List Int) : ∀ (k n : Nat) (a : Ev) (e : Ev), (madeS l true k n a).getLast? = some e → ∀ q, e.tied q = false
  | 0, n, a, e, h => by cases h
  | 1, n, a, e, h => by
    simp only [madeS, lastS, if_true, List.getLast?_singleton, Option.some.injEq] at h
    subst h
    exact loose_tied _
  | k + 2, n, a, e, h => by
    rw [madeS, madeS, List.getLast?_cons_cons] at h
    have := madeS_last l (k + 1) (eventS l n a).2 (lastS true (k + 1) (eventS l n a).1) e
    rw [madeS] at this
    exact this h
theorem madeV_last {l : List Int} {m : Int} {e : Ev} (h : (madeV l m true).getLast? = some e) : ∀ q, e.tied q = false := madeS_last _ _ _ _ _ h
/-! what values of made events there are -/
def formV (v : Vl) : Prop := (1 ≤ v.1 ∧ v.1 ≤ 4) ∧ (0 ≤ v.2.1 ∧ v.2.1 ≤ 1) ∧ ((v.2.2.1 = 0 ∧ v.2.2.2 = 0) ∨ (v.2.2.1 = 3 ∧ v.2.2.2 = 2))
theorem mkV_form {l : List Int} (hb : bytesOk l = true) (n : Nat) : formV (mkV l n) := by
  have r0 := mkB_range hb n
  have r1 := mkB_range hb (mkN l n)
  have t1 := Int.tmod_nonneg 4 r0.1
  have t2 := Int.tmod_lt_of_pos (mkB l n) (b := 4) (by omega)
  have t3 := Int.tmod_nonneg 5 r1.1
  have t4 := Int.tmod_lt_of_pos (mkB l (mkN l n)) (b := 5) (by omega)
  have t5 : 0 ≤ ((mkB l (mkN l n)).tmod 5).tdiv 4 ∧ ((mkB l (mkN l n)).tmod 5).tdiv 4 ≤ 1 := by
    rw [Int.tdiv_eq_ediv_of_nonneg t3]; omega
  refine ⟨?_, t5, ?_⟩
  · show 1 ≤ 1 + (mkB l n).tmod 4 ∧ 1 + (mkB l n).tmod 4 ≤ 4
    omega
  · simp only [mkV]
    split
    · exact .inr ⟨rfl, rfl⟩
    · exact .inl ⟨rfl, rfl⟩
theorem lastS_val (b : Bool) (k : Nat) (e : Ev) : (lastS b k e).val = e.val := by
  unfold lastS
  split
  · split <;> rfl
  · rfl
theorem madeS_form {l : List Int} (hb : bytesOk l = true) (b : Bool) : ∀ (k n : Nat) (a : Ev), ∀ e ∈ madeS l b k n a, formV e.val
  | 0, _, _, e, he => by cases he
  | k + 1, n, a, e, he => by
    rw [madeS] at he
    rcases List.mem_cons.1 he with rfl | he
    · rw [lastS_val]
      unfold eventS
      rw [endS_base]
      exact mkV_form hb n
    · exact madeS_form hb b k _ _ e he
/-- what the laws ask of an event -/
def Ev.nice (e : Ev) : Prop := e.right = true ∧ e.good ∧ formV e.val
theorem madeV_nice {l : List Int} {m : Int} (b : Bool) (hb : bytesOk (l.take 400) = true) : ∀ e ∈ madeV l m b, e.nice := fun e he =>
  ⟨(madeV_right b hb e he).1, (madeV_right b hb e he).2, madeS_form hb b _ _ _ e he⟩
end Vm

/- Fractions of 96, in plain words. -/
open Go
namespace Vm
theorem frac_eq {a b c d : Nat} (hb : 0 < b) (hd : 0 < d) (h : a * d = c * b) : a / Nat.gcd a b = c / Nat.gcd c d ∧ b / Nat.gcd a b = d / Nat.gcd c d := by
  have hg : 0 < Nat.gcd a b := Nat.gcd_pos_of_pos_right _ hb
  have hh : 0 < Nat.gcd c d := Nat.gcd_pos_of_pos_right _ hd
  have c1 : Nat.Coprime (a / Nat.gcd a b) (b / Nat.gcd a b) := Nat.coprime_div_gcd_div_gcd hg
  have c2 : Nat.Coprime (c / Nat.gcd c d) (d / Nat.gcd c d) := Nat.coprime_div_gcd_div_gcd hh
  have ea : a / Nat.gcd a b * Nat.gcd a b = a := Nat.div_mul_cancel (Nat.gcd_dvd_left a b)
  have eb : b / Nat.gcd a b * Nat.gcd a b = b := Nat.div_mul_cancel (Nat.gcd_dvd_right a b)
  have ec : c / Nat.gcd c d * Nat.gcd c d = c := Nat.div_mul_cancel (Nat.gcd_dvd_left c d)
  have ed : d / Nat.gcd c d * Nat.gcd c d = d := Nat.div_mul_cancel (Nat.gcd_dvd_right c d)
  generalize a / Nat.gcd a b = a' at *
  generalize b / Nat.gcd a b = b' at *
  generalize c / Nat.gcd c d = c' at *
  generalize d / Nat.gcd c d = d' at *
  generalize Nat.gcd a b = g at *
  generalize Nat.gcd c d = k at *
  have e : a' * d' = c' * b' := by
    have : (a' * d') * (g * k) = (c' * b') * (g * k) := by
      calc (a' * d') * (g * k) = (a' * g) * (d' * k) := by simp only [Nat.mul_comm, Nat.mul_left_comm, Nat.mul_assoc]
        _ = (c' * k) * (b' * g) := by rw [ea, ed, ec, eb, h]
        _ = (c' * b') * (g * k) := by simp only [Nat.mul_comm, Nat.mul_left_comm, Nat.mul_assoc]
    exact Nat.eq_of_mul_eq_mul_right (Nat.mul_pos hg hh) this
  constructor
  · exact Nat.dvd_antisymm (c1.dvd_of_dvd_mul_right ⟨d', e.symm⟩) (c2.dvd_of_dvd_mul_right ⟨b', e⟩)
  · exact Nat.dvd_antisymm (c1.symm.dvd_of_dvd_mul_left ⟨c', by rw [e, Nat.mul_comm]⟩) (c2.symm.dvd_of_dvd_mul_left ⟨a', by rw [← e, Nat.mul_comm]⟩)
def q96 (t : Nat) : Int × Int := (((t / Nat.gcd t 96 : Nat) : Int), ((96 / Nat.gcd t 96 : Nat) : Int))
theorem of_nat {a b : Nat} (hb : 0 < b) (ha : a ≤ 1000000000) (hb' : b ≤ 1000000000) : Rt.of a b = ((((a / Nat.gcd a b : Nat) : Int), ((b / Nat.gcd a b : Nat) : Int)), 0) := by
  have e1 : absI (a : Int) = a := rfl
  have e2 : absI (b : Int) = b := rfl
  have e3 : gcdI (a : Int) (b : Int) = (Nat.gcd a b : Nat) := rfl
  have l1 := Nat.div_le_self a (Nat.gcd a b)
  have l2 := Nat.div_le_self b (Nat.gcd a b)
  unfold Rt.of
  rw [if_neg (by omega), e1, e2, e3, ← Int.natCast_ediv, ← Int.natCast_ediv, if_neg (by split <;> omega), if_pos (by rw [decide_eq_false (by omega), decide_eq_false (by omega)]; rfl)]
theorem of_q96 {a b t : Nat} (hb : 0 < b) (h : a * 96 = t * b) (ht : t ≤ 1000000) : Rt.of a b = (q96 t, 0) := by
  have f := frac_eq (a := a) (b := b) (c := t) (d := 96) hb (by decide) h
  have e1 : absI (a : Int) = a := rfl
  have e2 : absI (b : Int) = b := rfl
  have e3 : gcdI (a : Int) (b : Int) = (Nat.gcd a b : Nat) := rfl
  have l1 := Nat.div_le_self t (Nat.gcd t 96)
  have l2 := Nat.div_le_self 96 (Nat.gcd t 96)
  unfold Rt.of
  rw [if_neg (by omega), e1, e2, e3, ← Int.natCast_ediv, ← Int.natCast_ediv, f.1, f.2, if_neg (by split <;> omega), if_pos (by rw [decide_eq_false (by omega), decide_eq_false (by omega)]; rfl)]
  rfl
/-- the parts of such a fraction -/
theorem q96_parts (t : Nat) : ∃ a d g : Nat, q96 t = ((a : Int), (d : Int)) ∧ a * g = t ∧ d * g = 96 ∧ Nat.Coprime a d ∧ 0 < g ∧ 0 < d := by
  have hg : 0 < Nat.gcd t 96 := Nat.gcd_pos_of_pos_right _ (by decide)
  have e : 96 / Nat.gcd t 96 * Nat.gcd t 96 = 96 := Nat.div_mul_cancel (Nat.gcd_dvd_right t 96)
  refine ⟨t / Nat.gcd t 96, 96 / Nat.gcd t 96, Nat.gcd t 96, rfl, Nat.div_mul_cancel (Nat.gcd_dvd_left t 96), e, Nat.coprime_div_gcd_div_gcd hg, hg, ?_⟩
  rcases Nat.eq_zero_or_pos (96 / Nat.gcd t 96) with h | h
  · rw [h] at e; omega
  · exact h
theorem q96_right {t : Nat} (ht : t ≤ 1000000) : Rt.right (q96 t) = true := by
  obtain ⟨a, d, g, e, h1, h2, h3, h4, h5⟩ := q96_parts t
  rw [e, Rt.right_iff]
  have la : a ≤ t := by rw [← h1]; exact Nat.le_mul_of_pos_right _ h4
  have ld : d ≤ 96 := by rw [← h2]; exact Nat.le_mul_of_pos_right _ h4
  refine ⟨?_, ?_, ?_, ?_⟩
  · show (1 : Int) ≤ d; omega
  · show (a : Int) ≤ _; omega
  · show (d : Int) ≤ _; omega
  · show ((Nat.gcd a d : Nat) : Int) = 1
    rw [show Nat.gcd a d = 1 from h3]; rfl
theorem q96_add {s t : Nat} (hs : s ≤ 100000) (ht : t ≤ 100000) : Rt.add (q96 s) (q96 t) = (q96 (s + t), 0) := by
  have r1 := q96_right (t := s) (by omega)
  have r2 := q96_right (t := t) (by omega)
  obtain ⟨a, d, g, e, h1, h2, h3, h4, h5⟩ := q96_parts s
  obtain ⟨a', d', g', e', h1', h2', h3', h4', h5'⟩ := q96_parts t
  unfold Rt.add
  rw [r1, r2, e, e']
  simp only [Bool.and_self, if_true]
  have := of_q96 (a := a * d' + a' * d) (b := d * d') (t := s + t) (Nat.mul_pos h5 h5') (by
    rw [Nat.add_mul, Nat.add_mul]
    congr 1
    · rw [← h1, ← h2]; simp only [Nat.mul_comm, Nat.mul_left_comm, Nat.mul_assoc]
    · rw [← h1', ← h2']; simp only [Nat.mul_comm, Nat.mul_left_comm, Nat.mul_assoc]) (by omega)
  rw [← this]
  rfl
theorem q96_sub {s t : Nat} (hs : s ≤ 100000) (ht : t ≤ s) : Rt.sub (q96 s) (q96 t) = (q96 (s - t), 0) := by
  have r1 := q96_right (t := s) (by omega)
  have r2 := q96_right (t := t) (by omega)
  obtain ⟨a, d, g, e, h1, h2, h3, h4, h5⟩ := q96_parts s
  obtain ⟨a', d', g', e', h1', h2', h3', h4', h5'⟩ := q96_parts t
  have p1 : a * d' * 96 = s * (d * d') := by rw [← h1, ← h2]; simp only [Nat.mul_comm, Nat.mul_left_comm, Nat.mul_assoc]
  have p2 : a' * d * 96 = t * (d * d') := by rw [← h1', ← h2']; simp only [Nat.mul_comm, Nat.mul_left_comm, Nat.mul_assoc]
  have hle : a' * d ≤ a * d' := by
    have : t * (d * d') ≤ s * (d * d') := Nat.mul_le_mul_right _ ht
    rw [← p1, ← p2] at this
    omega
  unfold Rt.sub
  rw [r1, r2, e, e']
  simp only [Bool.and_self, if_true]
  have := of_q96 (a := a * d' - a' * d) (b := d * d') (t := s - t) (Nat.mul_pos h5 h5') (by
    rw [Nat.sub_mul, Nat.sub_mul, p1, p2]) (by omega)
  rw [← this, Int.ofNat_sub hle]
  rfl
theorem q96_cmp {s t : Nat} (hs : s ≤ 1000000) (ht : t ≤ 1000000) : Rt.cmp (q96 s) (q96 t) = sgn s t := by
  have r1 := q96_right hs
  have r2 := q96_right ht
  obtain ⟨a, d, g, e, h1, h2, h3, h4, h5⟩ := q96_parts s
  obtain ⟨a', d', g', e', h1', h2', h3', h4', h5'⟩ := q96_parts t
  have p1 : a * d' * 96 = s * (d * d') := by rw [← h1, ← h2]; simp only [Nat.mul_comm, Nat.mul_left_comm, Nat.mul_assoc]
  have p2 : a' * d * 96 = t * (d * d') := by rw [← h1', ← h2']; simp only [Nat.mul_comm, Nat.mul_left_comm, Nat.mul_assoc]
  have hp : 0 < d * d' := Nat.mul_pos h5 h5'
  unfold Rt.cmp
  rw [r1, r2, e, e']
  simp only [Bool.and_self, if_true]
  show sgn ((a * d' : Nat) : Int) ((a' * d : Nat) : Int) = sgn s t
  have l1 : a * d' < a' * d ↔ s < t := by
    constructor
    · intro h
      have : s * (d * d') < t * (d * d') := by rw [← p1, ← p2]; omega
      exact Nat.lt_of_mul_lt_mul_right this
    · intro h
      have : s * (d * d') < t * (d * d') := Nat.mul_lt_mul_of_pos_right h hp
      rw [← p1, ← p2] at this; omega
  have l2 : a' * d < a * d' ↔ t < s := by
    constructor
    · intro h
      have : t * (d * d') < s * (d * d') := by rw [← p1, ← p2]; omega
      exact Nat.lt_of_mul_lt_mul_right this
    · intro h
      have : t * (d * d') < s * (d * d') := Nat.mul_lt_mul_of_pos_right h hp
      rw [← p1, ← p2] at this; omega
  unfold sgn
  simp only [Int.ofNat_lt, l1, l2]
theorem q96_inj {s t : Nat} (hs : s ≤ 1000000) (ht : t ≤ 1000000) (h : q96 s = q96 t) : s = t := by
  have := q96_cmp hs ht
  rw [← h, q96_cmp hs hs] at this
  unfold sgn at this
  repeat' split at this
  all_goals omega
theorem q96_zero : q96 0 = (0, 1) := by decide
theorem q96_pos {t : Nat} (h : 0 < t) : 0 < (q96 t).1 := by
  obtain ⟨a, d, g, e, h1, h2, h3, h4, h5⟩ := q96_parts t
  rw [e]
  show (0 : Int) < a
  rcases Nat.eq_zero_or_pos a with ha | ha
  · subst ha; omega
  · omega
theorem q96_nonneg (t : Nat) : 0 ≤ (q96 t).1 := Int.natCast_nonneg _
/-- how long such a value is, in 96ths -/
def n96 (v : Vl) : Nat := ((Vl.len v).1.1 * 96 / (Vl.len v).1.2).toNat
theorem n96_form {v : Vl} (h : formV v) : Vl.len v = (q96 (n96 v), 0) ∧ 1 ≤ n96 v ∧ n96 v ≤ 72 := by
  obtain ⟨a, b, c, d⟩ := v
  obtain ⟨⟨h1, h2⟩, ⟨h3, h4⟩, h5⟩ := h
  dsimp only at h1 h2 h3 h4 h5
  have ha : a = 1 ∨ a = 2 ∨ a = 3 ∨ a = 4 := by omega
  have hb : b = 0 ∨ b = 1 := by omega
  rcases ha with rfl | rfl | rfl | rfl <;> rcases hb with rfl | rfl <;> rcases h5 with ⟨rfl, rfl⟩ | ⟨rfl, rfl⟩ <;> decide +kernel
theorem Ev.nice_len {e : Ev} (h : e.nice) : Ev.len e = (q96 (n96 e.val), 0) ∧ 1 ≤ n96 e.val ∧ n96 e.val ≤ 72 := by
  unfold Ev.len
  rw [if_pos h.1]
  exact n96_form h.2.2
/-- where the events end, in 96ths -/
def cumL : Nat → List Ev → List Nat
  | _, [] => []
  | t, e :: r => (t + n96 e.val) :: cumL (t + n96 e.val) r
theorem sumsF_cum : ∀ (l : List Ev) (t : Nat), (∀ e ∈ l, e.nice) → t + 72 * l.length ≤ 90000 → sumsF (q96 t) l = ((cumL t l).map q96, 0)
  | [], t, _, _ => rfl
  | e :: r, t, h, hl => by
    have hn := Ev.nice_len (h e (by simp))
    simp only [List.length_cons] at hl
    have ih := sumsF_cum r (t + n96 e.val) (fun x hx => h x (List.mem_cons_of_mem _ hx)) (by omega)
    rw [sumsF, hn.1]
    dsimp only
    rw [q96_add (by omega) (by omega)]
    dsimp only
    rw [if_pos rfl, ih]
    rfl
theorem sums_nice {v : Vo} (h : ∀ e ∈ v, e.nice) (hl : v.length ≤ 64) (ht : tieI v 0 = -1) : Vo.sums v = ((0 :: cumL 0 v).map q96, 0) := by
  unfold Vo.sums
  rw [chk_ok hl (fun e he => (h e he).1) ht, if_pos rfl, ← q96_zero, sumsF_cum v 0 h (by omega)]
  rfl
end Vm

/- Voices with an odd event: what they are told, in plain words. -/
open Go
namespace Vm
/-- an event that ties nothing any more -/
def Ev.free (e : Ev) : Ev := (e.1, e.2.1, List.replicate e.2.2.1.length false, e.2.2.2)
def loosen : Nat → Vo → Vo
  | 0, v => v
  | _ + 1, [] => []
  | k + 1, e :: r => e.free :: loosen k r
theorem loosen_get : ∀ (k : Nat) (v : Vo) (j : Nat), (loosen k v)[j]? = if j < k then v[j]?.map Ev.free else v[j]?
  | 0, v, j => by rw [if_neg (Nat.not_lt_zero _)]; rfl
  | k + 1, [], j => by simp [loosen]
  | k + 1, e :: r, j => by
    cases j with
    | zero => rfl
    | succ j =>
      simp only [loosen, List.getElem?_cons_succ]
      rw [loosen_get k r j]
      by_cases h : j < k
      · rw [if_pos h, if_pos (by omega)]
      · rw [if_neg h, if_neg (by omega)]
theorem loosen_len : ∀ (k : Nat) (v : Vo), (loosen k v).length = v.length
  | 0, v => rfl
  | k + 1, [] => rfl
  | k + 1, e :: r => by simp only [loosen, List.length_cons, loosen_len k r]
theorem loosen_set {v : Vo} {i : Nat} (h : i < v.length) : (loosen i v).set i (v[i].free) = loosen (i + 1) v := by
  refine List.ext_getElem? fun j => ?_
  rw [List.getElem?_set, loosen_len, loosen_get, loosen_get]
  by_cases h1 : i = j
  · subst h1
    rw [if_pos rfl, if_pos h, if_pos (by omega), List.getElem?_eq_getElem h]
    rfl
  · rw [if_neg h1]
    by_cases h2 : j < i
    · rw [if_pos h2, if_pos (by omega)]
    · rw [if_neg h2, if_neg (by omega)]
theorem free_tied (e : Ev) (q : Pt) : e.free.tied q = false := tiedIn_false q _ _
theorem free_right {e : Ev} (h : e.right = true) : e.free.right = true := by
  rw [Ev.right_eq] at h ⊢
  simp only [Bool.and_eq_true] at h ⊢
  refine ⟨h.1, h.2.1, h.2.2.1, ?_, h.2.2.2.2⟩
  have := h.2.2.2.1
  show decide ((List.replicate e.2.2.1.length false).length = e.2.1.length) = true
  rw [List.length_replicate]
  exact this
abbrev oddE (t : Bool) : Ev := (1, [(0, 0, 7)], [t], 2, 0, 0, 0, [], [])
theorem oddE_right (t : Bool) : (oddE t).right = true := by
  rw [Ev.right_eq]
  rw [show plain (Ev.word (oddE t)) = true from plain_nil]
  cases t <;> decide
theorem oddE_free (q : Pt) : (oddE false).tied q = false := rfl
theorem joined_free {a : Ev} (h : ∀ q, a.tied q = false) (b : Ev) : joined a b = true := joined_of fun q hq => by rw [h q] at hq; cases hq
theorem tieI_at : ∀ (v : Vo) (i k : Nat) (a b : Ev), v[k]? = some a → v[k + 1]? = some b → joined a b = false → (∀ j x y, j < k → v[j]? = some x → v[j + 1]? = some y → joined x y = true) → tieI v i = (i + k : Nat)
  | [], i, k, a, b, h, _, _, _ => by cases h
  | [x], i, k, a, b, _, h, _, _ => by simp at h
  | x :: y :: r, i, 0, a, b, h1, h2, h3, _ => by
    cases h1; cases h2
    rw [tieI, if_neg (by rw [h3]; decide)]
    rfl
  | x :: y :: r, i, k + 1, a, b, h1, h2, h3, h4 => by
    rw [tieI, if_pos (h4 0 x y (by omega) rfl rfl), tieI_at (y :: r) (i + 1) k a b h1 h2 h3 (fun j p q hj hp hq => h4 (j + 1) p q (by omega) hp hq)]
    congr 1
    omega
/-- what is told of a voice with one tie that leads to nothing -/
theorem odd_chk {v : Vo} (h : ∀ e ∈ v, e.nice) (hl : v.length ≤ 64) (ht : tieI v 0 = -1) {k : Nat} (hk : k + 1 < v.length) :
    Vo.chk ((loosen k v).set k (oddE true)) = ((k : Int), 71) ∧ Vo.chk ((loosen k v).set k (oddE false)) = (0, 0) := by
  have hlen : ∀ t, ((loosen k v).set k (oddE t)).length = v.length := fun t => by rw [List.length_set, loosen_len]
  have hget : ∀ (t : Bool) (j : Nat), ((loosen k v).set k (oddE t))[j]? = if j = k then some (oddE t) else if j < k then v[j]?.map Ev.free else v[j]? := fun t j => by
    show (List.set (loosen k v) k (oddE t))[j]? = _
    rw [List.getElem?_set, loosen_len, loosen_get]
    by_cases h1 : k = j
    · subst h1
      rw [if_pos rfl, if_pos (by omega), if_pos rfl]
    · rw [if_neg h1, if_neg (fun e : j = k => h1 e.symm)]
  have hr : ∀ (t : Bool), ∀ e ∈ (loosen k v).set k (oddE t), e.right = true := by
    intro t e he
    obtain ⟨j, hj⟩ := List.mem_iff_getElem?.1 he
    rw [hget] at hj
    by_cases h1 : j = k
    · rw [if_pos h1] at hj; cases hj; exact oddE_right t
    · rw [if_neg h1] at hj
      by_cases h2 : j < k
      · rw [if_pos h2] at hj
        cases hv : v[j]? with
        | none => rw [hv] at hj; cases hj
        | some x =>
          rw [hv] at hj; cases hj
          exact free_right (h x (List.mem_of_getElem? hv)).1
      · rw [if_neg h2] at hj
        exact (h e (List.mem_of_getElem? hj)).1
  have hfree : ∀ (t : Bool) (j : Nat) (x : Ev), j < k → ((loosen k v).set k (oddE t))[j]? = some x → ∀ q, x.tied q = false := by
    intro t j x hj hx
    rw [hget, if_neg (by omega), if_pos hj] at hx
    cases hv : v[j]? with
    | none => rw [hv] at hx; cases hx
    | some y => rw [hv] at hx; cases hx; exact free_tied y
  constructor
  · obtain ⟨b, hb⟩ : ∃ b, v[k + 1]? = some b := ⟨v[k + 1], List.getElem?_eq_getElem hk⟩
    have hj : joined (oddE true) b = false := by
      cases hc : joined (oddE true) b with
      | false => rfl
      | true =>
        have := joined_tied hc (q := ((0 : Int), (0 : Int), (7 : Int))) rfl
        have := ((h b (List.mem_of_getElem? hb)).2.1.2.2 _ this).2.2.2.2
        exact absurd this (by decide)
    have e := tieI_at ((loosen k v).set k (oddE true)) 0 k (oddE true) b (by rw [hget, if_pos rfl]) (by rw [hget, if_neg (by omega), if_neg (by omega)]; exact hb) hj
      (fun j x y hj hx hy => joined_free (hfree true j x hj hx) y)
    unfold Vo.chk
    rw [hlen, if_neg (by omega), badI_neg (List.all_eq_true.2 (hr true)), if_neg (by decide), e, if_pos (Int.natCast_nonneg _), Nat.zero_add]
  · refine chk_ok (by rw [hlen]; exact hl) (hr false) ?_
    rw [tieI_iff] at ht ⊢
    intro j x y hx hy
    by_cases h1 : j < k
    · exact joined_free (hfree false j x h1 hx) y
    · by_cases h2 : j = k
      · subst h2
        rw [hget, if_pos rfl] at hx
        cases hx
        exact joined_free oddE_free y
      · rw [hget, if_neg h2, if_neg h1] at hx
        rw [hget, if_neg (by omega), if_neg (by omega)] at hy
        exact ht j x y hx hy
theorem oddLast_chk : Vo.chk [oddE true] = (0, 0) := chk_ok (by decide) (fun e he => by rw [List.mem_singleton.1 he]; exact oddE_right true) rfl
/-! what is no event -/
abbrev badE : Ev := (5, [], [], 0, 0, 0, 0, [], [])
theorem badE_right : badE.right = false := by
  rw [Ev.right_eq, show Ev.shape badE = false from rfl]
  simp
theorem badI_at {r : Vo} : ∀ (v : Vo) (i : Nat), v.all Ev.right = true → badI (v ++ badE :: r) i = (i + v.length : Nat)
  | [], i, _ => by rw [List.nil_append, badI, badE_right, if_neg (by decide)]; rfl
  | e :: v, i, h => by
    simp only [List.all_cons, Bool.and_eq_true] at h
    rw [List.cons_append, badI, if_pos h.1, badI_at v (i + 1) h.2]
    simp only [List.length_cons]
    congr 1
    omega
theorem bad_chk {v r : Vo} (h : ∀ e ∈ v, e.right = true) (hl : v.length + r.length < 64) : Vo.chk (v ++ badE :: r) = ((v.length : Int), 60) := by
  unfold Vo.chk
  rw [if_neg (by simp only [List.length_append, List.length_cons]; omega), badI_at v 0 (List.all_eq_true.2 h), if_pos (Int.natCast_nonneg _), Nat.zero_add]
theorem sums_bad {v : Vo} {e : Int} (h : (Vo.chk v).2 = e) (he : e ≠ 0) : Vo.sums v = ([], e) := by
  unfold Vo.sums
  rw [if_neg (by rw [h]; exact he), h]
abbrev beatE : Ev := (0, [], [], 2, 0, 0, 0, [], [])
theorem beatE_right : beatE.right = true := by
  rw [Ev.right_eq, show plain (Ev.word beatE) = true from plain_nil]
  decide
theorem beats_chk : Vo.chk (List.replicate 64 beatE) = (0, 0) := by
  refine chk_ok (by rw [List.length_replicate]; decide) (fun e he => by rw [(List.mem_replicate.1 he).2]; exact beatE_right) ?_
  rw [tieI_iff]
  intro k a b ha _
  have : a = beatE := (List.mem_replicate.1 (List.mem_of_getElem? ha)).2
  subst this
  exact joined_free (fun q => rfl) b
theorem long_chk {v : Vo} (h : 64 < v.length) : Vo.chk v = (64, 70) := by unfold Vo.chk; rw [if_pos h]
theorem voOk {v : Vo} (h : ∀ e ∈ v, (Ev.mk e).length ≤ 1000) (hl : v.length ≤ 1000) : Vo.ok v = true := by
  simp only [Vo.ok, Bool.and_eq_true, decide_eq_true_eq]
  refine ⟨by omega, List.all_eq_true.2 fun e he => ?_⟩
  have := h e he
  simp only [Ev.okm, decide_eq_true_eq]
  omega
theorem loosen_mk {v : Vo} (h : ∀ e ∈ v, e.few) (k : Nat) : ∀ e ∈ loosen k v, (Ev.mk e).length ≤ 1000 := by
  intro e he
  obtain ⟨j, hj⟩ := List.mem_iff_getElem?.1 he
  rw [loosen_get] at hj
  by_cases h2 : j < k
  · rw [if_pos h2] at hj
    cases hv : v[j]? with
    | none => rw [hv] at hj; cases hj
    | some x =>
      rw [hv] at hj; cases hj
      have := (h x (List.mem_of_getElem? hv)).2.2.1
      show (Ev.mk x).length ≤ 1000
      omega
  · rw [if_neg h2] at hj
    have := (h e (List.mem_of_getElem? hj)).2.2.1
    omega
theorem set_mk {v : Vo} (h : ∀ e ∈ v, (Ev.mk e).length ≤ 1000) (k : Nat) {x : Ev} (hx : (Ev.mk x).length ≤ 1000) : ∀ e ∈ v.set k x, (Ev.mk e).length ≤ 1000 := by
  intro e he
  rcases List.mem_or_eq_of_mem_set he with h' | rfl
  · exact h e h'
  · exact hx
end Vm

/- Where events begin, in 96ths; what there is at a place: in plain words. -/
open Go
namespace Vm
def pos : Vo → Nat → Nat
  | _, 0 => 0
  | [], _ + 1 => 0
  | e :: r, k + 1 => n96 e.val + pos r k
theorem pos_zero (v : Vo) : pos v 0 = 0 := by cases v <;> rfl
theorem pos_succ : ∀ {v : Vo} {k : Nat} {e : Ev}, v[k]? = some e → pos v (k + 1) = pos v k + n96 e.val
  | a :: r, 0, e, h => by
    cases h
    simp only [pos, pos_zero]
    omega
  | a :: r, k + 1, e, h => by
    have := pos_succ (v := r) (k := k) (e := e) h
    simp only [pos] at this ⊢
    omega
theorem pos_append : ∀ (a b : Vo) (k : Nat), pos (a ++ b) (a.length + k) = pos a a.length + pos b k
  | [], b, k => by simp [pos_zero]
  | e :: r, b, k => by
    have := pos_append r b k
    simp only [List.cons_append, List.length_cons, show r.length + 1 + k = r.length + k + 1 by omega, pos]
    omega
theorem pos_left : ∀ (a b : Vo) {k : Nat}, k ≤ a.length → pos (a ++ b) k = pos a k
  | a, b, 0, _ => by rw [pos_zero, pos_zero]
  | e :: r, b, k + 1, h => by
    simp only [List.length_cons] at h
    simp only [List.cons_append, pos, pos_left r b (show k ≤ r.length by omega)]
theorem cumL_len : ∀ (l : List Ev) (t : Nat), (cumL t l).length = l.length
  | [], _ => rfl
  | e :: r, t => by simp only [cumL, List.length_cons, cumL_len r]
theorem cumL_get : ∀ (l : List Ev) (t k : Nat), k < l.length → (cumL t l)[k]? = some (t + pos l (k + 1))
  | e :: r, t, 0, _ => by simp only [cumL, pos, pos_zero, List.getElem?_cons_zero]; rfl
  | e :: r, t, k + 1, h => by
    simp only [List.length_cons] at h
    simp only [cumL, List.getElem?_cons_succ]
    rw [cumL_get r _ k (by omega)]
    simp only [pos]
    congr 1
    omega
/-- the places of a voice -/
def posL (v : Vo) : List Nat := 0 :: cumL 0 v
theorem posL_len (v : Vo) : (posL v).length = v.length + 1 := by rw [posL, List.length_cons, cumL_len]
theorem posL_get {v : Vo} {k : Nat} (h : k ≤ v.length) : (posL v)[k]? = some (pos v k) := by
  cases k with
  | zero => rw [pos_zero]; rfl
  | succ k =>
    rw [posL, List.getElem?_cons_succ, cumL_get v 0 k (by omega), Nat.zero_add]
/-- a voice that is right, of few events of few values -/
structure Vo.fine (v : Vo) : Prop where
  nice : ∀ e ∈ v, e.nice
  few : ∀ e ∈ v, e.few
  short : v.length ≤ 64
  tie : tieI v 0 = -1
theorem Vo.fine.chk {v : Vo} (h : v.fine) : Vo.chk v = (0, 0) := chk_ok h.short (fun e he => (h.nice e he).1) h.tie
theorem Vo.fine.sums {v : Vo} (h : v.fine) : Vo.sums v = ((posL v).map q96, 0) := sums_nice h.nice h.short h.tie
theorem Vo.fine.sum_get {v : Vo} (h : v.fine) {k : Nat} (hk : k ≤ v.length) : (Vo.sums v).1[k]? = some (q96 (pos v k)) := by
  rw [h.sums]
  dsimp only
  rw [List.getElem?_map, posL_get hk]
  rfl
theorem madeV_fine {l : List Int} {m : Int} (b : Bool) (hb : bytesOk (l.take 400) = true) (hm : 0 ≤ m ∧ m ≤ 64) : (madeV l m b).fine :=
  ⟨madeV_nice b hb, madeV_few b hb (by omega), by have := (madeV_len b hb hm.1).2; omega, tieI_madeV l m b⟩
theorem Vo.fine.le {v : Vo} (h : v.fine) : ∀ {k : Nat}, pos v k ≤ 72 * v.length := by
  intro k
  have key : ∀ (l : Vo) (k : Nat), (∀ e ∈ l, e.nice) → pos l k ≤ 72 * l.length := by
    intro l
    induction l with
    | nil => intro k _; cases k <;> exact Nat.zero_le _
    | cons e r ih =>
      intro k hl
      cases k with
      | zero => rw [pos_zero]; exact Nat.zero_le _
      | succ k =>
        have h1 := ih k (fun x hx => hl x (List.mem_cons_of_mem _ hx))
        have h2 := (Ev.nice_len (hl e (by simp))).2.2
        simp only [pos, List.length_cons]
        omega
  exact key v k h.nice
theorem Vo.fine.most {v : Vo} (h : v.fine) (k : Nat) : pos v k ≤ 4608 := by
  have := h.le (k := k)
  have := h.short
  omega
theorem Vo.fine.step {v : Vo} (h : v.fine) {k : Nat} (hk : k < v.length) : pos v k < pos v (k + 1) := by
  rw [pos_succ (List.getElem?_eq_getElem hk)]
  have := (Ev.nice_len (h.nice _ (List.getElem_mem hk))).2.1
  omega
theorem Vo.fine.mono {v : Vo} (h : v.fine) : ∀ {j k : Nat}, j ≤ k → k ≤ v.length → pos v j ≤ pos v k
  | j, 0, h1, _ => by rw [show j = 0 by omega]; exact Nat.le_refl _
  | j, k + 1, h1, h2 => by
    by_cases hj : j = k + 1
    · rw [hj]; exact Nat.le_refl _
    · have := h.mono (j := j) (k := k) (by omega) (by omega)
      have := h.step (k := k) (by omega)
      omega
theorem Vo.fine.lt {v : Vo} (h : v.fine) {j k : Nat} (h1 : j < k) (h2 : k ≤ v.length) : pos v j < pos v k := by
  have := h.step (k := j) (by omega)
  have := h.mono (j := j + 1) (k := k) (by omega) h2
  omega
theorem Vo.fine.le_iff {v : Vo} (h : v.fine) {j k : Nat} (h1 : j ≤ v.length) (h2 : k ≤ v.length) : pos v j ≤ pos v k ↔ j ≤ k := by
  constructor
  · intro hh
    by_cases hc : j ≤ k
    · exact hc
    · have := h.lt (j := k) (k := j) (by omega) h1
      omega
  · intro hh; exact h.mono hh h2
theorem Vo.fine.lt_iff {v : Vo} (h : v.fine) {j k : Nat} (h1 : j ≤ v.length) (h2 : k ≤ v.length) : pos v j < pos v k ↔ j < k := by
  constructor
  · intro hh
    by_cases hc : j < k
    · exact hc
    · have := h.mono (j := k) (k := j) (by omega) h1
      omega
  · intro hh; exact h.lt hh h2
theorem Vo.fine.starts {v : Vo} (h : v.fine) : Vo.starts v = (((posL v).map q96).take v.length, 0) := by
  unfold Vo.starts; rw [h.sums]
theorem Vo.fine.start_get {v : Vo} (h : v.fine) {k : Nat} (hk : k < v.length) : (Vo.starts v).1[k]? = some (q96 (pos v k)) := by
  rw [h.starts]
  dsimp only
  rw [List.getElem?_take_of_lt hk, List.getElem?_map, posL_get (by omega)]
  rfl
theorem Vo.fine.start_len {v : Vo} (h : v.fine) : (Vo.starts v).1.length = v.length := by
  rw [h.starts]
  simp only [List.length_take, List.length_map, posL_len]
  omega
theorem Vo.fine.len {v : Vo} (h : v.fine) : Vo.len v = (q96 (pos v v.length), 0) := by
  unfold Vo.len
  rw [h.sum_get (Nat.le_refl _), h.sums]
  rfl
theorem q96_i64 (t : Nat) (h : t ≤ 1000000) : Rt.i64 (q96 t) = true := Rt.right_i64 (q96_right h)
/-! what there is at a place -/
theorem atI_found {s : Nat} (hs : s ≤ 100000) : ∀ (ts : List Nat) (i k a b : Nat), (∀ t ∈ ts, t ≤ 100000) → ts[k]? = some a → ts[k + 1]? = some b → a ≤ s → s < b → (∀ j c, j < k → ts[j + 1]? = some c → c ≤ s) →
    atI (q96 s) (ts.map q96) i = (((i + k : Nat) : Int), true)
  | [], i, k, a, b, _, h, _, _, _, _ => by cases h
  | [x], i, k, a, b, _, _, h, _, _, _ => by simp at h
  | x :: y :: r, i, 0, a, b, hb, h1, h2, h3, h4, _ => by
    cases h1; cases h2
    simp only [List.map_cons, atI]
    have b1 := hb x (by simp)
    have b2 := hb y (by simp)
    rw [q96_cmp (by omega) (by omega), if_pos (by unfold sgn; split <;> (try split) <;> omega), q96_cmp (by omega) (by omega), if_pos (by unfold sgn; rw [if_pos (by omega)]; decide)]
    rfl
  | x :: y :: r, i, k + 1, a, b, hb, h1, h2, h3, h4, h5 => by
    simp only [List.map_cons, atI]
    have b1 := hb x (by simp)
    have b2 := hb y (by simp)
    have b3 := h5 0 y (by omega) rfl
    have ih := atI_found hs (y :: r) (i + 1) k a b (fun t ht => hb t (List.mem_cons_of_mem _ ht)) h1 h2 h3 h4 (fun j c hj hc => h5 (j + 1) c (by omega) hc)
    rw [List.map_cons] at ih
    have e : ¬ Rt.cmp (q96 s) (q96 y) < 0 := by
      rw [q96_cmp (by omega) (by omega)]
      unfold sgn
      rw [if_neg (by omega)]
      split <;> decide
    rw [if_neg e, ih, show i + 1 + k = i + (k + 1) by omega]
    split <;> rfl
theorem atI_none {t : Int × Int} : ∀ (ts : List (Int × Int)) (i : Nat), (∀ j a b, ts[j]? = some a → ts[j + 1]? = some b → ¬ (Rt.cmp a t ≤ 0 ∧ Rt.cmp t b < 0)) → atI t ts i = (0, false)
  | [], i, _ => rfl
  | [x], i, _ => rfl
  | x :: y :: r, i, h => by
    have ih := atI_none (y :: r) (i + 1) (fun j a b h1 h2 => h (j + 1) a b h1 h2)
    have h0 := h 0 x y rfl rfl
    simp only [atI]
    split
    · rename_i h1
      rw [if_neg (fun h2 => h0 ⟨h1, h2⟩), ih]
    · exact ih
theorem posL_le {v : Vo} (h : v.fine) : ∀ t ∈ posL v, t ≤ 100000 := by
  intro t ht
  obtain ⟨k, hk⟩ := List.mem_iff_getElem?.1 ht
  have hl : k < (posL v).length := by
    by_cases hc : k < (posL v).length
    · exact hc
    · rw [List.getElem?_eq_none (by omega)] at hk; cases hk
  rw [posL_len] at hl
  rw [posL_get (by omega)] at hk
  cases hk
  have := h.most k
  omega
theorem Vo.fine.at_in {v : Vo} (h : v.fine) {s k : Nat} (hs : s ≤ 100000) (hk : k < v.length) (h1 : pos v k ≤ s) (h2 : s < pos v (k + 1)) : Vo.at v (q96 s) = ((k : Int), true) := by
  unfold Vo.at
  rw [h.sums, if_pos rfl, if_pos (q96_right (by omega))]
  dsimp only
  rw [atI_found hs (posL v) 0 k _ _ (posL_le h) (posL_get (by omega)) (posL_get (by omega)) h1 h2 (fun j c hj hc => by
    rw [posL_get (by omega)] at hc
    cases hc
    have := h.mono (j := j + 1) (k := k) (by omega) (by omega)
    omega), Nat.zero_add]
theorem Vo.fine.at_end {v : Vo} (h : v.fine) {s : Nat} (hs : s ≤ 100000) (h1 : pos v v.length ≤ s) : Vo.at v (q96 s) = (0, false) := by
  unfold Vo.at
  rw [h.sums, if_pos rfl, if_pos (q96_right (by omega))]
  refine atI_none _ 0 fun j a b ha hb => ?_
  rintro ⟨_, hc⟩
  have hl : j + 1 < (posL v).length := by
    by_cases hq : j + 1 < (posL v).length
    · exact hq
    · rw [List.getElem?_eq_none (by rw [List.length_map]; omega)] at hb; cases hb
  rw [posL_len] at hl
  dsimp only at hb
  rw [List.getElem?_map, posL_get (by omega)] at hb
  cases hb
  have := h.most (j + 1)
  rw [q96_cmp (by omega) (by omega)] at hc
  have := h.mono (j := j + 1) (k := v.length) (by omega) (Nat.le_refl _)
  unfold sgn at hc
  rw [if_neg (by omega)] at hc
  split at hc <;> exact absurd hc (by decide)
theorem Vo.fine.at_neg {v : Vo} (h : v.fine) : Vo.at v (-1, 96) = (0, false) := by
  unfold Vo.at
  rw [h.sums, if_pos rfl, if_pos (by decide)]
  refine atI_none _ 0 fun j a b ha hb => ?_
  rintro ⟨hc, _⟩
  have hl : j < (posL v).length := by
    by_cases hq : j < (posL v).length
    · exact hq
    · dsimp only at ha
      rw [List.getElem?_eq_none (by rw [List.length_map]; omega)] at ha; cases ha
  rw [posL_len] at hl
  dsimp only at ha
  rw [List.getElem?_map, posL_get (by omega)] at ha
  cases ha
  have hm := h.most j
  have r1 := q96_right (t := pos v j) (by omega)
  unfold Rt.cmp at hc
  rw [r1, show Rt.right ((-1 : Int), (96 : Int)) = true by decide] at hc
  simp only [Bool.and_self, if_true] at hc
  have n1 := q96_nonneg (pos v j)
  have n2 := Rt.right_bounds r1
  unfold sgn at hc
  rw [if_neg (by omega), if_pos (by omega)] at hc
  exact absurd hc (by decide)
theorem Vo.fine.find {v : Vo} {s : Nat} : ∀ (m : Nat), m ≤ v.length → s < pos v m → ∃ k, k < m ∧ pos v k ≤ s ∧ s < pos v (k + 1)
  | 0, _, h => by rw [pos_zero] at h; omega
  | m + 1, hm, h => by
    by_cases h1 : s < pos v m
    · obtain ⟨k, h2, h3⟩ := Vo.fine.find m (by omega) h1
      exact ⟨k, by omega, h3⟩
    · exact ⟨m, by omega, by omega, h⟩
end Vm

/- What sounds of voices, and of two that are joined, in plain words. -/
open Go
namespace Vm
theorem begE_congr {f g : Pt → So} {led : Pt → Bool} : ∀ (ps : List Pt), (∀ p ∈ ps, f p = g p) → begE f led ps = begE g led ps
  | [], _ => rfl
  | p :: ps, h => by
    have ih := begE_congr (f := f) (g := g) (led := led) ps (fun q hq => h q (List.mem_cons_of_mem _ hq))
    simp only [begE, ih, h p (by simp)]
theorem begE_map (h : So → So) (g : Pt → So) (led : Pt → Bool) : ∀ (ps : List Pt), begE (fun p => h (g p)) led ps = (begE g led ps).map h
  | [] => rfl
  | p :: ps => by
    simp only [begE, begE_map h g led ps]
    split <;> rfl
theorem begAll_congr {f g : Nat → Pt → So} : ∀ (l : Vo) (k j : Nat) (led : Pt → Bool), (∀ i e, l[i]? = some e → ∀ p ∈ e.pitches, f (k + i) p = g (j + i) p) → begAll f k led l = begAll g j led l
  | [], _, _, _, _ => rfl
  | e :: r, k, j, led, h => by
    simp only [begAll]
    rw [begE_congr (f := f k) (g := g j) e.pitches (fun p hp => h 0 e rfl p hp), begAll_congr r (k + 1) (j + 1) _ (fun i x hx p hp => by
      have := h (i + 1) x hx p hp
      rw [show k + 1 + i = k + (i + 1) by omega, show j + 1 + i = j + (i + 1) by omega]
      exact this)]
theorem begAll_map (h : So → So) (g : Nat → Pt → So) : ∀ (l : Vo) (k : Nat) (led : Pt → Bool), begAll (fun k p => h (g k p)) k led l = (begAll g k led l).map h
  | [], _, _ => rfl
  | e :: r, k, led => by
    simp only [begAll, List.map_append]
    rw [begAll_map h g r (k + 1), begE_map h (g k) led]
def lastLed (led : Pt → Bool) : Vo → Pt → Bool
  | [] => led
  | e :: r => lastLed (fun p => e.tied p) r
theorem lastLed_false : ∀ (a : Vo) (led : Pt → Bool), (a = [] → ∀ q, led q = false) → (∀ e, a.getLast? = some e → ∀ q, e.tied q = false) → ∀ q, lastLed led a q = false
  | [], led, h, _, q => h rfl q
  | [e], led, _, h, q => h e rfl q
  | e :: f :: r, led, _, h, q => by
    rw [lastLed]
    exact lastLed_false (f :: r) _ (fun hh => by cases hh) (fun x hx => h x (by rw [List.getLast?_cons_cons]; exact hx)) q
theorem begAll_append (f : Nat → Pt → So) : ∀ (a b : Vo) (k : Nat) (led : Pt → Bool), begAll f k led (a ++ b) = begAll f k led a ++ begAll f (k + a.length) (lastLed led a) b
  | [], b, k, led => rfl
  | e :: r, b, k, led => by
    simp only [List.cons_append, begAll, lastLed, List.length_cons, List.append_assoc]
    rw [begAll_append f r b (k + 1), show k + 1 + r.length = k + (r.length + 1) by omega]
theorem begE_mem {f : Pt → So} {led : Pt → Bool} {y : So} : ∀ {ps : List Pt}, y ∈ begE f led ps → ∃ p ∈ ps, y = f p
  | p :: ps, h => by
    simp only [begE] at h
    split at h
    · obtain ⟨q, hq, e⟩ := begE_mem h; exact ⟨q, List.mem_cons_of_mem _ hq, e⟩
    · rcases List.mem_cons.1 h with rfl | h
      · exact ⟨p, by simp, rfl⟩
      · obtain ⟨q, hq, e⟩ := begE_mem h; exact ⟨q, List.mem_cons_of_mem _ hq, e⟩
theorem begAll_mem {f : Nat → Pt → So} {y : So} : ∀ {l : Vo} {k : Nat} {led : Pt → Bool}, y ∈ begAll f k led l → ∃ i e p, l[i]? = some e ∧ p ∈ e.pitches ∧ y = f (k + i) p
  | e :: r, k, led, h => by
    simp only [begAll, List.mem_append] at h
    rcases h with h | h
    · obtain ⟨p, hp, he⟩ := begE_mem h
      exact ⟨0, e, p, rfl, hp, he⟩
    · obtain ⟨i, x, p, h1, h2, h3⟩ := begAll_mem h
      exact ⟨i + 1, x, p, h1, h2, by rw [h3, show k + 1 + i = k + (i + 1) by omega]⟩
/-- a sound, by its pitch, its place and its length in 96ths, and its marks -/
def soN (p : Pt) (a d : Nat) (m : List Int) : So := (p.1, p.2.1, p.2.2, (q96 a).1, (q96 a).2, (q96 d).1, (q96 d).2, m)
/-- where a note that begins at an event ends -/
def endK (v : Vo) (k : Nat) (p : Pt) : Nat := k + toLen p (v.drop k) + 1
theorem endK_le {v : Vo} {k : Nat} (p : Pt) (hk : k < v.length) : k < endK v k p ∧ endK v k p ≤ v.length := by
  have hne : v.drop k ≠ [] := fun h => by
    have := congrArg List.length h
    simp only [List.length_drop, List.length_nil] at this
    omega
  have := toLen_lt p hne
  rw [List.length_drop] at this
  unfold endK
  omega
theorem Vo.fine.sub {v : Vo} (h : v.fine) {k : Nat} (hk : k < v.length) (p : Pt) : subOf v (Vo.sums v).1 k p = (q96 (pos v (endK v k p) - pos v k), 0) := by
  have he := endK_le p hk
  unfold subOf
  rw [show k + toLen p (v.drop k) + 1 = endK v k p from rfl, h.sum_get he.2, h.sum_get (by omega)]
  show Rt.sub (q96 (pos v (endK v k p))) (q96 (pos v k)) = _
  have := h.most (endK v k p)
  exact q96_sub (by omega) (h.mono (by omega) he.2)
theorem Vo.fine.sound {v : Vo} (h : v.fine) {k : Nat} {e : Ev} (he : v[k]? = some e) (p : Pt) : soundOf v (Vo.sums v).1 k p = soN p (pos v k) (pos v (endK v k p) - pos v k) (Ev.mk e) := by
  have hk : k < v.length := by
    by_cases hc : k < v.length
    · exact hc
    · rw [List.getElem?_eq_none (by omega)] at he; cases he
  unfold soundOf
  rw [h.sub hk p, h.sum_get (by omega), he]
  rfl
theorem Vo.fine.tiny {v : Vo} (h : v.fine) : Vo.tiny v = true := by
  unfold Vo.tiny
  rw [decide_eq_true h.short, Bool.true_and]
  refine List.all_eq_true.2 fun e he => ?_
  have f := h.few e he
  have f1 := f.1
  have f2 := f.2.1
  have f3 := f.2.2.1
  unfold Ev.tiny
  rw [decide_eq_true (by omega), decide_eq_true (by omega)]
  rfl
theorem Vo.fine.ok {v : Vo} (h : v.fine) : Vo.ok v = true := voOk (fun e he => by have := (h.few e he).2.2.1; omega) (by have := h.short; omega)
theorem Vo.fine.soundsOk {v : Vo} (h : v.fine) : Vo.soundsOk v = true := by
  have hl : (Vo.sums v).1.length = v.length + 1 := by rw [h.sums]; simp only [List.length_map, posL_len]
  unfold Vo.soundsOk
  rw [h.ok, if_pos (by rw [h.sums]), Bool.true_and]
  unfold begunG
  rw [(voSame_iff v v).2 rfl, h.tiny, Bool.true_and, Bool.true_and]
  unfold soundsG
  refine List.all_eq_true.2 fun k hk => ?_
  have hk := List.mem_range.1 hk
  refine List.all_eq_true.2 fun p _ => ?_
  unfold roundG
  rw [h.sub hk p, h.tiny, hl, decide_eq_true hk, List.all_eq_true.2 Vo.sums_i64]
  simp only [decide_true, Bool.and_self]
theorem Vo.fine.sounds {v : Vo} (h : v.fine) : Vo.sounds v = (begS v (Vo.sums v).1, 0) := by
  unfold Vo.sounds
  rw [if_pos (by rw [h.sums])]
theorem Vo.fine.sound_i64 {v : Vo} (h : v.fine) : ∀ y ∈ (Vo.sounds v).1, Rt.i64 (y.2.2.2.1, y.2.2.2.2.1) = true := by
  intro y hy
  rw [h.sounds] at hy
  obtain ⟨i, e, p, h1, h2, h3⟩ := begAll_mem hy
  rw [Nat.zero_add, h.sound h1 p] at h3
  subst h3
  have := h.most i
  exact q96_i64 (pos v i) (by omega)
/-! joined ones -/
def later (x : Int × Int) (s : So) : So := (s.1, s.2.1, s.2.2.1, (Rt.add (s.2.2.2.1, s.2.2.2.2.1) x).1.1, (Rt.add (s.2.2.2.1, s.2.2.2.2.1) x).1.2, s.2.2.2.2.2)
theorem toLen_join (p : Pt) (b : Vo) : ∀ (x : Vo), x ≠ [] → (∀ e, x.getLast? = some e → ∀ q, e.tied q = false) → toLen p (x ++ b) = toLen p x
  | [e], _, h => by
    have := h e rfl p
    cases b with
    | nil => rfl
    | cons c r =>
      show (if e.tied p then toLen p (c :: r) + 1 else 0) = 0
      rw [this]; rfl
  | e :: f :: r, _, h => by
    have ih := toLen_join p b (f :: r) (by simp) (fun x hx => h x (by rw [List.getLast?_cons_cons]; exact hx))
    show (if e.tied p then toLen p (f :: r ++ b) + 1 else 0) = (if e.tied p then toLen p (f :: r) + 1 else 0)
    rw [ih]
theorem fine_join {a b : Vo} (ha : a.fine) (hb : b.fine) (hl : a.length + b.length ≤ 64) (ht : ∀ e, a.getLast? = some e → ∀ q, e.tied q = false) : Vo.fine (a ++ b) where
  nice := fun e he => (List.mem_append.1 he).elim (ha.nice e) (hb.nice e)
  few := fun e he => (List.mem_append.1 he).elim (ha.few e) (hb.few e)
  short := by rw [List.length_append]; exact hl
  tie := tieI_append ha.tie hb.tie ht
theorem sounds_join {a b : Vo} (ha : a.fine) (hb : b.fine) (hl : a.length + b.length ≤ 64) (ht : ∀ e, a.getLast? = some e → ∀ q, e.tied q = false) :
    (Vo.sounds (a ++ b)).1 = (Vo.sounds a).1 ++ (Vo.sounds b).1.map (later (q96 (pos a a.length))) := by
  have hc := fine_join ha hb hl ht
  rw [hc.sounds, ha.sounds, hb.sounds]
  show begAll (soundOf (a ++ b) (Vo.sums (a ++ b)).1) 0 (fun _ => false) (a ++ b) = begAll (soundOf a (Vo.sums a).1) 0 (fun _ => false) a ++ (begAll (soundOf b (Vo.sums b).1) 0 (fun _ => false) b).map _
  rw [begAll_append, ← begAll_map, show lastLed (fun _ => false) a = (fun _ => false) from funext (lastLed_false a _ (fun _ _ => rfl) ht)]
  congr 1
  · refine begAll_congr a 0 0 _ fun i e he p hp => ?_
    have hi : i < a.length := by
      by_cases hq : i < a.length
      · exact hq
      · rw [List.getElem?_eq_none (by omega)] at he; cases he
    have hg : (a ++ b)[i]? = some e := by rw [List.getElem?_append_left hi]; exact he
    have hne : a.drop i ≠ [] := fun h => by
      have := congrArg List.length h
      simp only [List.length_drop, List.length_nil] at this
      omega
    have hk : endK (a ++ b) i p = endK a i p := by
      unfold endK
      rw [List.drop_append_of_le_length (by omega), toLen_join p b (a.drop i) hne (fun x hx => ht x (by
        rw [← hx, List.getLast?_drop, if_neg (by omega)]))]
    have he2 := endK_le p hi
    rw [Nat.zero_add, hc.sound hg p, ha.sound he p, hk, pos_left a b (by omega), pos_left a b he2.2]
  · refine begAll_congr b _ 0 _ fun i e he p hp => ?_
    have hi : i < b.length := by
      by_cases hq : i < b.length
      · exact hq
      · rw [List.getElem?_eq_none (by omega)] at he; cases he
    have hg : (a ++ b)[a.length + i]? = some e := by rw [List.getElem?_append_right (by omega), show a.length + i - a.length = i by omega]; exact he
    have hk : endK (a ++ b) (a.length + i) p = a.length + endK b i p := by
      unfold endK
      rw [List.drop_append, show List.drop (a.length + i) a = [] from List.drop_eq_nil_of_le (by omega), show a.length + i - a.length = i by omega, List.nil_append]
      omega
    have m1 := ha.most a.length
    have m2 := hb.most i
    rw [Nat.zero_add, Nat.zero_add, hc.sound hg p, hb.sound he p, hk, pos_append, pos_append]
    have e1 : pos a a.length + pos b (endK b i p) - (pos a a.length + pos b i) = pos b (endK b i p) - pos b i := by omega
    have e2 : Rt.add (q96 (pos b i)) (q96 (pos a a.length)) = (q96 (pos b i + pos a a.length), 0) := q96_add (by omega) (by omega)
    rw [e1]
    unfold later soN
    dsimp only
    rw [show (((q96 (pos b i)).1, (q96 (pos b i)).2) : Int × Int) = q96 (pos b i) from rfl, e2, Nat.add_comm (pos b i)]
end Vm

/- Which sounds are there at an event: just one for each of its pitches; how many there are. -/
open Go
namespace Vm
/-- where notes begin: events and pitches -/
def begK (led : Pt → Bool) : Vo → List (Nat × Pt)
  | [] => []
  | e :: r => (e.pitches.filter (fun p => !led p)).map (fun p => (0, p)) ++ (begK (fun p => e.tied p) r).map (fun x => (x.1 + 1, x.2))
theorem begE_filter (f : Pt → So) (led : Pt → Bool) : ∀ ps : List Pt, begE f led ps = (ps.filter (fun p => !led p)).map f
  | [] => rfl
  | p :: ps => by
    simp only [begE, begE_filter f led ps, List.filter_cons]
    cases led p <;> rfl
theorem begAll_begK (f : Nat → Pt → So) : ∀ (l : Vo) (k : Nat) (led : Pt → Bool), begAll f k led l = (begK led l).map (fun x => f (k + x.1) x.2)
  | [], _, _ => rfl
  | e :: r, k, led => by
    simp only [begAll, begK, begE_filter, List.map_append, List.map_map]
    rw [begAll_begK f r (k + 1)]
    congr 1
    refine List.map_congr_left fun x _ => ?_
    show f (k + 1 + x.1) x.2 = f (k + (x.1 + 1)) x.2
    rw [show k + 1 + x.1 = k + (x.1 + 1) by omega]
theorem begK_mem {x : Nat × Pt} : ∀ {v : Vo} {led : Pt → Bool}, x ∈ begK led v → ∃ e, v[x.1]? = some e ∧ x.2 ∈ e.pitches
  | e :: r, led, h => by
    simp only [begK, List.mem_append, List.mem_map] at h
    rcases h with ⟨p, hp, rfl⟩ | ⟨y, hy, rfl⟩
    · exact ⟨e, rfl, (List.mem_filter.1 hp).1⟩
    · obtain ⟨a, h1, h2⟩ := begK_mem hy
      exact ⟨a, h1, h2⟩
theorem begK_sorted : ∀ (v : Vo) (led : Pt → Bool), (begK led v).Pairwise (fun x y => x.1 ≤ y.1)
  | [], _ => List.Pairwise.nil
  | e :: r, led => by
    simp only [begK]
    rw [List.pairwise_append]
    refine ⟨?_, ?_, ?_⟩
    · rw [List.pairwise_map]
      exact List.pairwise_of_forall (fun _ _ => Nat.le_refl 0)
    · rw [List.pairwise_map]
      exact (begK_sorted r _).imp (fun h => Nat.succ_le_succ h)
    · intro x hx y hy
      obtain ⟨p, _, rfl⟩ := List.mem_map.1 hx
      exact Nat.zero_le _
/-- is a note that begins there to be heard at an event, of a pitch? -/
def covK (v : Vo) (k : Nat) (p : Pt) (x : Nat × Pt) : Bool := decide (x.2 = p) && (decide (x.1 ≤ k) && decide (k < endK v x.1 x.2))
theorem count_filter {p : Pt} {c led : Pt → Bool} : ∀ ps : List Pt, ps.Nodup → (ps.filter (fun q => !led q)).countP (fun q => decide (q = p) && c q) = if p ∈ ps ∧ led p = false ∧ c p = true then 1 else 0
  | [], _ => by simp
  | q :: ps, h => by
    have hn := List.nodup_cons.1 h
    have ih := count_filter (p := p) (c := c) (led := led) ps hn.2
    rw [List.filter_cons]
    by_cases hq : q = p
    · subst hq
      have e0 : (ps.filter (fun x => !led x)).countP (fun x => decide (x = q) && c x) = 0 := by rw [ih, if_neg (fun hh => hn.1 hh.1)]
      cases hl : led q with
      | true => simp only [Bool.not_true, Bool.false_eq_true, if_false]; rw [e0, if_neg (fun hh => by cases hh.2.1)]
      | false =>
        simp only [Bool.not_false, if_true]
        rw [List.countP_cons, e0]
        cases hc : c q with
        | true => rw [if_pos (by simp), if_pos (by simp)]
        | false => rw [if_neg (by simp), if_neg (by simp)]
    · have hm : (p ∈ q :: ps) ↔ p ∈ ps := by
        rw [List.mem_cons]
        exact ⟨fun h => h.elim (fun e => absurd e.symm hq) id, .inr⟩
      simp only [hm]
      rw [← ih]
      split
      · rw [List.countP_cons, if_neg (by simp [hq])]
        rfl
      · rfl
theorem tiedIn_mem {q : Pt} : ∀ {ps : List Pt} {ts : List Bool}, tiedIn ps ts q = true → q ∈ ps
  | p :: ps, t :: ts, h => by
    simp only [tiedIn, Bool.or_eq_true, Bool.and_eq_true, decide_eq_true_eq] at h
    rcases h with ⟨_, h⟩ | h
    · subst h; simp
    · exact List.mem_cons_of_mem _ (tiedIn_mem h)
theorem cov_count : ∀ (v : Vo) (k : Nat) (p : Pt) (led : Pt → Bool) (e : Ev), v[k]? = some e → p ∈ e.pitches → (∀ x ∈ v, x.pitches.Nodup) → (begK led v).countP (covK v k p) = if led p = true ∧ k ≤ toLen p v then 0 else 1
  | [], k, p, led, e, h, _, _ => by cases h
  | a :: r, k, p, led, e, h, hp, hn => by
    simp only [begK]
    rw [List.countP_append, List.countP_map, List.countP_map]
    have e1 : ((a.pitches.filter (fun q => !led q)).countP (covK (a :: r) k p ∘ fun q => (0, q))) = if p ∈ a.pitches ∧ led p = false ∧ (decide (0 ≤ k) && decide (k < 0 + toLen p (a :: r) + 1)) = true then 1 else 0 :=
      count_filter (c := fun q => decide (0 ≤ k) && decide (k < 0 + toLen q (a :: r) + 1)) a.pitches (hn a (by simp))
    rw [e1]
    cases k with
    | zero =>
      cases h
      have e2 : ((begK (fun p => a.tied p) r).countP (covK (a :: r) 0 p ∘ fun x => (x.1 + 1, x.2))) = 0 := by
        rw [List.countP_eq_zero]
        intro x _
        simp [covK]
      rw [e2]
      cases hl : led p with
      | true => rw [if_neg (fun hh => by cases hh.2.1), if_pos ⟨rfl, Nat.zero_le _⟩]
      | false => rw [if_pos ⟨hp, rfl, by simp⟩, if_neg (fun hh => by cases hh.1)]
    | succ k =>
      have h' : r[k]? = some e := h
      have e2 : ((begK (fun p => a.tied p) r).countP (covK (a :: r) (k + 1) p ∘ fun x => (x.1 + 1, x.2))) = (begK (fun p => a.tied p) r).countP (covK r k p) := by
        refine congrArg (fun f => List.countP f _) (funext fun x => ?_)
        show (decide (x.2 = p) && (decide (x.1 + 1 ≤ k + 1) && decide (k + 1 < x.1 + 1 + toLen x.2 (r.drop x.1) + 1))) = (decide (x.2 = p) && (decide (x.1 ≤ k) && decide (k < x.1 + toLen x.2 (r.drop x.1) + 1)))
        congr 1
        congr 1
        · exact decide_eq_decide.2 (by omega)
        · exact decide_eq_decide.2 (by omega)
      rw [e2, cov_count r k p _ e h' hp (fun x hx => hn x (List.mem_cons_of_mem _ hx))]
      obtain ⟨b, r', rfl⟩ : ∃ b r', r = b :: r' := by
        cases r with
        | nil => cases h'
        | cons b r' => exact ⟨b, r', rfl⟩
      have htl : toLen p (a :: b :: r') = if a.tied p = true then toLen p (b :: r') + 1 else 0 := rfl
      simp only [Bool.and_eq_true, decide_eq_true_eq]
      rw [htl]
      by_cases ht : a.tied p = true
      case neg =>
        rw [if_neg ht, if_neg (fun hh => by have := hh.2.2.2; omega), if_neg (fun hh => ht hh.1), if_neg (fun hh => by have := hh.2; omega)]
      case pos =>
        have hm := tiedIn_mem ht
        rw [if_pos ht]
        simp only [ht, true_and]
        by_cases hk : k ≤ toLen p (b :: r')
        · rw [if_pos hk]
          cases hl : led p with
          | true => rw [if_neg (fun hh => by cases hh.2.1), if_pos ⟨rfl, by omega⟩]
          | false => rw [if_pos ⟨hm, rfl, by omega, by omega⟩, if_neg (fun hh => by cases hh.1)]
        · rw [if_neg hk, if_neg (fun hh => by have := hh.2.2.2; omega), if_neg (fun hh => by have := hh.2; omega)]
theorem nodup_rises : ∀ {ps : List Pt}, (∀ p ∈ ps, p.right = true) → risesP ps = true → ps.Nodup
  | [], _, _ => List.nodup_nil
  | q :: r, h, hs => List.nodup_cons.2 ⟨fun hm => ltP_irrefl q (risesP_lt h hs q hm), nodup_rises (fun p hp => h p (List.mem_cons_of_mem _ hp)) (risesP_tail hs)⟩
theorem Ev.nice_shape {e : Ev} (h : e.nice) : e.pitches.Nodup ∧ e.ties.length = e.pitches.length ∧ e.pitches.length ≤ 8 := by
  have hr := h.1
  rw [Ev.right_eq] at hr
  simp only [Bool.and_eq_true, decide_eq_true_eq] at hr
  refine ⟨?_, hr.2.2.2.1, h.2.1.2.1⟩
  have hs := hr.2.2.2.2
  unfold Ev.shape at hs
  split at hs
  · simp only [Bool.and_eq_true, decide_eq_true_eq] at hs
    rw [List.eq_nil_of_length_eq_zero hs.1]
    exact List.nodup_nil
  · simp only [Bool.and_eq_true, decide_eq_true_eq, Ev.tail] at hs
    exact nodup_rises (List.all_eq_true.1 hs.2.2.2.1) hs.2.2.2.2
/-! how many there are -/
def tieN (e : Ev) : Nat := e.ties.countP id
theorem nodup_le : ∀ (a b : List Pt), a.Nodup → (∀ x ∈ a, x ∈ b) → a.length ≤ b.length
  | [], b, _, _ => Nat.zero_le _
  | x :: a, b, h, hs => by
    have hn := List.nodup_cons.1 h
    have hx := hs x (by simp)
    have := nodup_le a (b.erase x) hn.2 (fun y hy => (List.mem_erase_of_ne (by rintro rfl; exact hn.1 hy)).2 (hs y (List.mem_cons_of_mem _ hy)))
    rw [List.length_erase_of_mem hx] at this
    have hb : 0 < b.length := List.length_pos_of_mem hx
    simp only [List.length_cons]
    omega
theorem tied_count : ∀ (ps : List Pt) (ts : List Bool), ps.Nodup → ts.length = ps.length → ps.countP (fun p => tiedIn ps ts p) = ts.countP id
  | [], [], _, _ => rfl
  | p :: ps, t :: ts, h, hl => by
    have hn := List.nodup_cons.1 h
    have ih := tied_count ps ts hn.2 (by simpa using hl)
    have h0 : tiedIn ps ts p = false := by
      cases hc : tiedIn ps ts p with
      | false => rfl
      | true => exact absurd (tiedIn_mem hc) hn.1
    rw [List.countP_cons, List.countP_cons, ← ih]
    have e1 : ps.countP (fun q => tiedIn (p :: ps) (t :: ts) q) = ps.countP (fun q => tiedIn ps ts q) := List.countP_congr fun q hq => by
      have : q ≠ p := fun e => hn.1 (e ▸ hq)
      simp [tiedIn, this]
    rw [e1]
    congr 1
    simp only [tiedIn, h0, Bool.or_false, decide_true, Bool.and_true, id]
theorem tied_next {a b : Ev} (ha : a.nice) (hb : b.nice) (hj : joined a b = true) : b.pitches.countP (fun p => a.tied p) = tieN a := by
  have sa := Ev.nice_shape ha
  have sb := Ev.nice_shape hb
  have e : a.pitches.countP (fun p => a.tied p) = tieN a := tied_count a.pitches a.ties sa.1 sa.2.1
  rw [← e, List.countP_eq_length_filter, List.countP_eq_length_filter]
  refine Nat.le_antisymm (nodup_le _ _ (sb.1.filter _) fun x hx => ?_) (nodup_le _ _ (sa.1.filter _) fun x hx => ?_)
  · have h2 := (List.mem_filter.1 hx).2
    exact List.mem_filter.2 ⟨tiedIn_mem h2, h2⟩
  · have h2 := (List.mem_filter.1 hx).2
    exact List.mem_filter.2 ⟨joined_tied hj h2, h2⟩
def pitN (v : Vo) : Nat := (v.map fun e => e.pitches.length).sum
def tiesN (v : Vo) : Nat := (v.map tieN).sum
theorem filter_not (c : Pt → Bool) : ∀ ps : List Pt, (ps.filter (fun p => !c p)).length + ps.countP c = ps.length
  | [] => rfl
  | p :: ps => by
    have := filter_not c ps
    rw [List.filter_cons, List.countP_cons]
    cases c p <;> simp only [Bool.not_true, Bool.not_false, if_true, Bool.false_eq_true, if_false, List.length_cons] <;> omega
theorem begK_len : ∀ (v : Vo) (led : Pt → Bool), (∀ e ∈ v, e.nice) → tieI v 0 = -1 → (∀ e, v.getLast? = some e → ∀ q, e.tied q = false) →
    (begK led v).length + (match v with | [] => 0 | e :: _ => e.pitches.countP led) + tiesN v = pitN v
  | [], led, _, _, _ => rfl
  | [e], led, hn, _, hl => by
    have h0 := hl e rfl
    have sa := Ev.nice_shape (hn e (by simp))
    have e1 : e.pitches.countP (fun p => e.tied p) = tieN e := tied_count e.pitches e.ties sa.1 sa.2.1
    have e2 : e.pitches.countP (fun p => e.tied p) = 0 := by
      rw [List.countP_eq_zero]
      intro p _
      rw [h0 p]; simp
    have := filter_not led e.pitches
    simp only [begK, tiesN, pitN, List.map_cons, List.map_nil, List.sum_cons, List.sum_nil, List.length_append, List.length_map, List.length_nil]
    omega
  | a :: b :: r, led, hn, ht, hl => by
    have ht' := (tieI_iff _ 0).1 ht
    have ih := begK_len (b :: r) (fun p => a.tied p) (fun x hx => hn x (List.mem_cons_of_mem _ hx)) ((tieI_iff _ 0).2 fun k x y h1 h2 => ht' (k + 1) x y h1 h2) (fun x hx => hl x (by rw [List.getLast?_cons_cons]; exact hx))
    have e1 := tied_next (hn a (by simp)) (hn b (by simp)) (ht' 0 a b rfl rfl)
    have := filter_not led a.pitches
    dsimp only at ih ⊢
    rw [begK]
    simp only [tiesN, pitN, List.map_cons, List.sum_cons, List.length_append, List.length_map] at ih ⊢
    omega
theorem begK_count (v : Vo) (hn : ∀ e ∈ v, e.nice) (ht : tieI v 0 = -1) (hl : ∀ e, v.getLast? = some e → ∀ q, e.tied q = false) : (begK (fun _ => false) v).length + tiesN v = pitN v := by
  have := begK_len v (fun _ => false) hn ht hl
  cases v with
  | nil => exact this
  | cons e r =>
    have e0 : e.pitches.countP (fun _ => false) = 0 := by simp
    dsimp only at this
    rw [e0] at this
    exact this
/-! the sounds of a voice -/
def snd (v : Vo) (x : Nat × Pt) : So := soN x.2 (pos v x.1) (pos v (endK v x.1 x.2) - pos v x.1) (Ev.mk (v[x.1]?.getD zEv))
theorem Vo.fine.sounds_eq {v : Vo} (h : v.fine) : (Vo.sounds v).1 = (begK (fun _ => false) v).map (snd v) := by
  rw [h.sounds]
  show begAll _ _ _ _ = _
  rw [begAll_begK]
  refine List.map_congr_left fun x hx => ?_
  obtain ⟨e, h1, h2⟩ := begK_mem hx
  rw [Nat.zero_add, h.sound h1, snd, h1]
  rfl
end Vm

open Go Go.Proofs
namespace Vm.S07
noncomputable abbrev f3cuts : Cuts := look [(11, [3, 4, 5, 7, 9, 11]), (19, [3, 4, 5, 7, 14, 15, 16]), (22, [3, 4, 5, 7, 14, 15, 16, 17]), (29, [3, 4, 5, 7, 14, 15, 16, 17, 18, 19])]
noncomputable abbrev f3t29 : List Item := itemsAt (fb Tryd.f3).2 29
noncomputable abbrev f3t22 : List Item := itemsAt (fb Tryd.f3).2 22
noncomputable abbrev f3t19 : List Item := itemsAt (fb Tryd.f3).2 19
noncomputable abbrev f3t11 : List Item := itemsAt (fb Tryd.f3).2 11
def f3s0 (l : List Int) (n1 : Int) (l2 : List (Int × List (Int × Int × Int) × List Bool × Int × Int × Int × Int × List Int × List UInt8)) (x3 : Int × Int) : St := { fr := [(3, V.bool true), (4, V.ref 0 0 0 0), (5, V.sl rSound (madeV l (16 : Int) true).sounds.fst), (7, V.sl rIv (madeV l (16 : Int) true).starts.fst), (9, V.ref 1 0 0 0), (11, V.int IntKind.i64 n1)], hp := [(0, Ob.var [V.sl rEvent l2]), (1, Ob.var [V.int IntKind.i64 x3.fst, V.int IntKind.i64 x3.snd])], nx := 2 }
def f3s1 (l : List Int) (n10 : Int) (n11 : Int) (n12 : Int) (l13 : List (Int × List (Int × Int × Int) × List Bool × Int × Int × Int × Int × List Int × List UInt8)) : St := { fr := [(3, V.bool true), (4, V.ref 0 0 0 0), (5, V.sl rSound (madeV l (16 : Int) true).sounds.fst), (7, V.sl rIv (madeV l (16 : Int) true).starts.fst), (14, V.int IntKind.i64 n10), (15, V.int IntKind.i64 n11), (16, V.int IntKind.i64 n12)], hp := [(0, Ob.var [V.sl rEvent l13])], nx := 1 }
def f3s2 (l : List Int) (n14 : Int) (n15 : Int) (n12 : Int) (n16 : Int) (l17 : List (Int × List (Int × Int × Int) × List Bool × Int × Int × Int × Int × List Int × List UInt8)) : St := { fr := [(3, V.bool true), (4, V.ref 0 0 0 0), (5, V.sl rSound (madeV l (16 : Int) true).sounds.fst), (7, V.sl rIv (madeV l (16 : Int) true).starts.fst), (14, V.int IntKind.i64 n14), (15, V.int IntKind.i64 n15), (16, V.int IntKind.i64 n12), (17, V.int IntKind.i64 n16)], hp := [(0, Ob.var [V.sl rEvent l17])], nx := 1 }
def f3s3 (l : List Int) (n14 : Int) (n15 : Int) (n12 : Int) (n16 : Int) (n21 : Int) (n22 : Int) (l23 : List (Int × List (Int × Int × Int) × List Bool × Int × Int × Int × Int × List Int × List UInt8)) : St := { fr := [(3, V.bool true), (4, V.ref 0 0 0 0), (5, V.sl rSound (madeV l (16 : Int) true).sounds.fst), (7, V.sl rIv (madeV l (16 : Int) true).starts.fst), (14, V.int IntKind.i64 (IntKind.i64.wrap (n14 + (1 : Int)))), (15, V.int IntKind.i64 (IntKind.i64.wrap (n15 + (1 : Int)))), (16, V.int IntKind.i64 n12), (17, V.int IntKind.i64 n16), (18, V.int IntKind.i64 n21), (19, V.int IntKind.i64 n22)], hp := [(0, Ob.var [V.sl rEvent l23])], nx := 1 }
def f3s4 (l : List Int) (n14 : Int) (n15 : Int) (n12 : Int) (n16 : Int) (n24 : Int) (n25 : Int) (l26 : List (Int × List (Int × Int × Int) × List Bool × Int × Int × Int × Int × List Int × List UInt8)) : St := { fr := [(3, V.bool true), (4, V.ref 0 0 0 0), (5, V.sl rSound (madeV l (16 : Int) true).sounds.fst), (7, V.sl rIv (madeV l (16 : Int) true).starts.fst), (14, V.int IntKind.i64 (IntKind.i64.wrap (n14 + (1 : Int)))), (15, V.int IntKind.i64 n15), (16, V.int IntKind.i64 n12), (17, V.int IntKind.i64 n16), (18, V.int IntKind.i64 n24), (19, V.int IntKind.i64 n25)], hp := [(0, Ob.var [V.sl rEvent l26])], nx := 1 }
theorem f3_go {R : Type} (J : List Item → St → Option R) (kk : V → List Ob → Option R) (l : List Int) :
  vseg ((E29 8)) f3cuts 0 J (vend ((E29 8)) 0 (fb Tryd.f3).1.results.toList false kk) 100000 true [.code (fb Tryd.f3).2] (start ([V.sl (Ks.cons (K.int IntKind.u8) Ks.nil) l]) ([])) =
  (bif madeG l (16 : Int) then
    (bif (madeV l (16 : Int) true).soundsOk then
      (bif Vo.ok (madeV l (16 : Int) true) then
        (bif Vo.ok (madeV l (16 : Int) true) then
          (bif !decide ((madeV l (16 : Int) true).sounds.snd = (0 : Int)) then
            kk (V.bool false) ([])
          else (bif !decide ((madeV l (16 : Int) true).starts.snd = (0 : Int)) then
              kk (V.bool false) ([])
            else (bif !decide ((madeV l (16 : Int) true).len.snd = (0 : Int)) then
                kk (V.bool false) ([])
              else (bif !decide ((↑(madeV l (16 : Int) true).starts.fst.length : Int) = (↑(List.length (madeV l (16 : Int) true)) : Int)) then
                  kk (V.bool false) ([])
                else J f3t11 (f3s0 (l) (0 : Int) (madeV l (16 : Int) true) ((madeV l (16 : Int) true).len.fst))))))
        else none)
      else none)
    else none)
  else none) := by kernel_rfl
theorem f3_0 {R : Type} (J : List Item → St → Option R) (kk : V → List Ob → Option R) (l : List Int) (n1 : Int) (l2 : List (Int × List (Int × Int × Int) × List Bool × Int × Int × Int × Int × List Int × List UInt8)) (x3 : Int × Int) :
  vseg ((E29 8)) f3cuts 0 J (vend ((E29 8)) 0 (fb Tryd.f3).1.results.toList false kk) 100000 true f3t11 (f3s0 l n1 l2 x3) =
  (bif decide (n1 < (↑(madeV l (16 : Int) true).sounds.fst.length : Int)) then
    (match idx (madeV l (16 : Int) true).sounds.fst n1 with
      | some y4 => (match idx (madeV l (16 : Int) true).sounds.fst n1 with
        | some y5 => (bif Rt.i64 (y4.snd.snd.snd.fst, y4.snd.snd.snd.snd.fst) && Rt.i64 (y5.snd.snd.snd.snd.snd.fst, y5.snd.snd.snd.snd.snd.snd.fst) then
          (bif !decide ((Rt.add (y4.snd.snd.snd.fst, y4.snd.snd.snd.snd.fst) (y5.snd.snd.snd.snd.snd.fst, y5.snd.snd.snd.snd.snd.snd.fst)).snd = (0 : Int)) then
            kk (V.bool false) ([])
          else (match idx (madeV l (16 : Int) true).sounds.fst n1 with
              | some y6 => (bif decide (y6.snd.snd.snd.fst < (0 : Int)) then
                kk (V.bool false) ([])
              else (match idx (madeV l (16 : Int) true).sounds.fst n1 with
                  | some y7 => (bif decide (y7.snd.snd.snd.snd.snd.fst ≤ (0 : Int)) then
                    kk (V.bool false) ([])
                  else (bif Rt.i64 (Rt.add (y4.snd.snd.snd.fst, y4.snd.snd.snd.snd.fst) (y5.snd.snd.snd.snd.snd.fst, y5.snd.snd.snd.snd.snd.snd.fst)).fst && Rt.i64 x3 then
                      (bif decide ((0 : Int) < Rt.cmp (Rt.add (y4.snd.snd.snd.fst, y4.snd.snd.snd.snd.fst) (y5.snd.snd.snd.snd.snd.fst, y5.snd.snd.snd.snd.snd.snd.fst)).fst x3) then
                        kk (V.bool false) ([])
                      else (bif decide ((0 : Int) < n1) then
                          (match idx (madeV l (16 : Int) true).sounds.fst (IntKind.i64.wrap (n1 - (1 : Int))) with
                            | some y8 => (match idx (madeV l (16 : Int) true).sounds.fst n1 with
                              | some y9 => (bif Rt.i64 (y8.snd.snd.snd.fst, y8.snd.snd.snd.snd.fst) && Rt.i64 (y9.snd.snd.snd.fst, y9.snd.snd.snd.snd.fst) then
                                (bif decide ((0 : Int) < Rt.cmp (y8.snd.snd.snd.fst, y8.snd.snd.snd.snd.fst) (y9.snd.snd.snd.fst, y9.snd.snd.snd.snd.fst)) then
                                  kk (V.bool false) ([])
                                else J f3t11 (f3s0 (l) (IntKind.i64.wrap (n1 + (1 : Int))) (l2) (x3)))
                              else none)
                              | none => none)
                            | none => none)
                        else J f3t11 (f3s0 (l) (IntKind.i64.wrap (n1 + (1 : Int))) (l2) (x3))))
                    else none))
                  | none => none))
              | none => none))
        else none)
        | none => none)
      | none => none)
  else J f3t19 (f3s1 (l) (0 : Int) (0 : Int) (0 : Int) (l2))) := by kernel_rfl
theorem f3_1 {R : Type} (J : List Item → St → Option R) (kk : V → List Ob → Option R) (l : List Int) (n10 : Int) (n11 : Int) (n12 : Int) (l13 : List (Int × List (Int × Int × Int) × List Bool × Int × Int × Int × Int × List Int × List UInt8)) :
  vseg ((E29 8)) f3cuts 0 J (vend ((E29 8)) 0 (fb Tryd.f3).1.results.toList false kk) 100000 true f3t19 (f3s1 l n10 n11 n12 l13) =
  (bif decide (n12 < (↑l13.length : Int)) then
    J f3t22 (f3s2 (l) (n10) (n11) (n12) (0 : Int) (l13))
  else kk (V.bool (decide ((↑(madeV l (16 : Int) true).sounds.fst.length : Int) = IntKind.i64.wrap (n10 - n11)))) ([])) := by kernel_rfl
theorem f3_2 {R : Type} (J : List Item → St → Option R) (kk : V → List Ob → Option R) (l : List Int) (n14 : Int) (n15 : Int) (n12 : Int) (n16 : Int) (l17 : List (Int × List (Int × Int × Int) × List Bool × Int × Int × Int × Int × List Int × List UInt8)) :
  vseg ((E29 8)) f3cuts 0 J (vend ((E29 8)) 0 (fb Tryd.f3).1.results.toList false kk) 100000 true f3t22 (f3s2 l n14 n15 n12 n16 l17) =
  (match idx l17 n12 with
    | some y18 => (bif decide (n16 < (↑(List.length y18.snd.fst) : Int)) then
      (match idx l17 n12 with
        | some y19 => (match idx y19.snd.snd.fst n16 with
          | some y20 => (bif y20 then
            J f3t29 (f3s3 (l) (n14) (n15) (n12) (n16) (0 : Int) (0 : Int) (l17))
          else J f3t29 (f3s4 (l) (n14) (n15) (n12) (n16) (0 : Int) (0 : Int) (l17)))
          | none => none)
        | none => none)
    else J f3t19 (f3s1 (l) (n14) (n15) (IntKind.i64.wrap (n12 + (1 : Int))) (l17)))
    | none => none) := by kernel_rfl
theorem f3_3 {R : Type} (J : List Item → St → Option R) (kk : V → List Ob → Option R) (l : List Int) (n14 : Int) (n15 : Int) (n12 : Int) (n16 : Int) (n21 : Int) (n22 : Int) (l23 : List (Int × List (Int × Int × Int) × List Bool × Int × Int × Int × Int × List Int × List UInt8)) :
  vseg ((E29 8)) f3cuts 0 J (vend ((E29 8)) 0 (fb Tryd.f3).1.results.toList false kk) 100000 true f3t29 (f3s3 l n14 n15 n12 n16 n21 n22 l23) =
  (bif decide (n22 < (↑(madeV l (16 : Int) true).sounds.fst.length : Int)) then
    (match idx (madeV l (16 : Int) true).sounds.fst n22 with
      | some y27 => (match idx (madeV l (16 : Int) true).sounds.fst n22 with
        | some y28 => (bif Rt.i64 (y27.snd.snd.snd.fst, y27.snd.snd.snd.snd.fst) && Rt.i64 (y28.snd.snd.snd.snd.snd.fst, y28.snd.snd.snd.snd.snd.snd.fst) then
          (match idx (madeV l (16 : Int) true).sounds.fst n22 with
            | some y29 => (match idx l23 n12 with
              | some y30 => (match idx y30.snd.fst n16 with
                | some y31 => (bif decide (y29.fst = y31.fst) && (decide (y29.snd.fst = y31.snd.fst) && decide (y29.snd.snd.fst = y31.snd.snd)) then
                  (match idx (madeV l (16 : Int) true).sounds.fst n22 with
                    | some y32 => (match idx (madeV l (16 : Int) true).starts.fst n12 with
                      | some y33 => (bif Rt.i64 (y32.snd.snd.snd.fst, y32.snd.snd.snd.snd.fst) && Rt.i64 y33 then
                        (bif decide (Rt.cmp (y32.snd.snd.snd.fst, y32.snd.snd.snd.snd.fst) y33 ≤ (0 : Int)) then
                          (match idx (madeV l (16 : Int) true).starts.fst n12 with
                            | some y34 => (bif Rt.i64 y34 && Rt.i64 (Rt.add (y27.snd.snd.snd.fst, y27.snd.snd.snd.snd.fst) (y28.snd.snd.snd.snd.snd.fst, y28.snd.snd.snd.snd.snd.snd.fst)).fst then
                              (bif decide (Rt.cmp y34 (Rt.add (y27.snd.snd.snd.fst, y27.snd.snd.snd.snd.fst) (y28.snd.snd.snd.snd.snd.fst, y28.snd.snd.snd.snd.snd.snd.fst)).fst < (0 : Int)) then
                                J f3t29 (f3s3 (l) (n14) (n15) (n12) (n16) (IntKind.i64.wrap (n21 + (1 : Int))) (IntKind.i64.wrap (n22 + (1 : Int))) (l23))
                              else J f3t29 (f3s3 (l) (n14) (n15) (n12) (n16) (n21) (IntKind.i64.wrap (n22 + (1 : Int))) (l23)))
                            else none)
                            | none => none)
                        else J f3t29 (f3s3 (l) (n14) (n15) (n12) (n16) (n21) (IntKind.i64.wrap (n22 + (1 : Int))) (l23)))
                      else none)
                      | none => none)
                    | none => none)
                else J f3t29 (f3s3 (l) (n14) (n15) (n12) (n16) (n21) (IntKind.i64.wrap (n22 + (1 : Int))) (l23)))
                | none => none)
              | none => none)
            | none => none)
        else none)
        | none => none)
      | none => none)
  else (bif !decide (n21 = (1 : Int)) then
      kk (V.bool false) ([])
    else J f3t22 (f3s2 (l) (IntKind.i64.wrap (n14 + (1 : Int))) (IntKind.i64.wrap (n15 + (1 : Int))) (n12) (IntKind.i64.wrap (n16 + (1 : Int))) (l23)))) := by kernel_rfl
theorem f3_4 {R : Type} (J : List Item → St → Option R) (kk : V → List Ob → Option R) (l : List Int) (n14 : Int) (n15 : Int) (n12 : Int) (n16 : Int) (n24 : Int) (n25 : Int) (l26 : List (Int × List (Int × Int × Int) × List Bool × Int × Int × Int × Int × List Int × List UInt8)) :
  vseg ((E29 8)) f3cuts 0 J (vend ((E29 8)) 0 (fb Tryd.f3).1.results.toList false kk) 100000 true f3t29 (f3s4 l n14 n15 n12 n16 n24 n25 l26) =
  (bif decide (n25 < (↑(madeV l (16 : Int) true).sounds.fst.length : Int)) then
    (match idx (madeV l (16 : Int) true).sounds.fst n25 with
      | some y35 => (match idx (madeV l (16 : Int) true).sounds.fst n25 with
        | some y36 => (bif Rt.i64 (y35.snd.snd.snd.fst, y35.snd.snd.snd.snd.fst) && Rt.i64 (y36.snd.snd.snd.snd.snd.fst, y36.snd.snd.snd.snd.snd.snd.fst) then
          (match idx (madeV l (16 : Int) true).sounds.fst n25 with
            | some y37 => (match idx l26 n12 with
              | some y38 => (match idx y38.snd.fst n16 with
                | some y39 => (bif decide (y37.fst = y39.fst) && (decide (y37.snd.fst = y39.snd.fst) && decide (y37.snd.snd.fst = y39.snd.snd)) then
                  (match idx (madeV l (16 : Int) true).sounds.fst n25 with
                    | some y40 => (match idx (madeV l (16 : Int) true).starts.fst n12 with
                      | some y41 => (bif Rt.i64 (y40.snd.snd.snd.fst, y40.snd.snd.snd.snd.fst) && Rt.i64 y41 then
                        (bif decide (Rt.cmp (y40.snd.snd.snd.fst, y40.snd.snd.snd.snd.fst) y41 ≤ (0 : Int)) then
                          (match idx (madeV l (16 : Int) true).starts.fst n12 with
                            | some y42 => (bif Rt.i64 y42 && Rt.i64 (Rt.add (y35.snd.snd.snd.fst, y35.snd.snd.snd.snd.fst) (y36.snd.snd.snd.snd.snd.fst, y36.snd.snd.snd.snd.snd.snd.fst)).fst then
                              (bif decide (Rt.cmp y42 (Rt.add (y35.snd.snd.snd.fst, y35.snd.snd.snd.snd.fst) (y36.snd.snd.snd.snd.snd.fst, y36.snd.snd.snd.snd.snd.snd.fst)).fst < (0 : Int)) then
                                J f3t29 (f3s4 (l) (n14) (n15) (n12) (n16) (IntKind.i64.wrap (n24 + (1 : Int))) (IntKind.i64.wrap (n25 + (1 : Int))) (l26))
                              else J f3t29 (f3s4 (l) (n14) (n15) (n12) (n16) (n24) (IntKind.i64.wrap (n25 + (1 : Int))) (l26)))
                            else none)
                            | none => none)
                        else J f3t29 (f3s4 (l) (n14) (n15) (n12) (n16) (n24) (IntKind.i64.wrap (n25 + (1 : Int))) (l26)))
                      else none)
                      | none => none)
                    | none => none)
                else J f3t29 (f3s4 (l) (n14) (n15) (n12) (n16) (n24) (IntKind.i64.wrap (n25 + (1 : Int))) (l26)))
                | none => none)
              | none => none)
            | none => none)
        else none)
        | none => none)
      | none => none)
  else (bif !decide (n24 = (1 : Int)) then
      kk (V.bool false) ([])
    else J f3t22 (f3s2 (l) (IntKind.i64.wrap (n14 + (1 : Int))) (n15) (n12) (IntKind.i64.wrap (n16 + (1 : Int))) (l26)))) := by kernel_rfl

end Vm.S07

open Go Go.Proofs
namespace Vm.S07
def Run3 {R : Type} (kk : V → List Ob → Option R) (t : List Item) (s : St) : Prop :=
  ∃ N, vrun (E29 8) f3cuts 0 100000 (vend (E29 8) 0 (fb Tryd.f3).1.results.toList false kk) N t s = kk (.bool true) []
theorem snd_add {v : Vo} (h : v.fine) {x : Nat × Pt} (hx : x.1 < v.length) : Rt.add (q96 (pos v x.1)) (q96 (pos v (endK v x.1 x.2) - pos v x.1)) = (q96 (pos v (endK v x.1 x.2)), 0) := by
  have he := endK_le x.2 hx
  have m1 := h.most (endK v x.1 x.2)
  have m2 := h.mono (j := x.1) (k := endK v x.1 x.2) (by omega) he.2
  rw [q96_add (by omega) (by omega), show pos v x.1 + (pos v (endK v x.1 x.2) - pos v x.1) = pos v (endK v x.1 x.2) by omega]
theorem begK_lt {v : Vo} {led : Pt → Bool} {x : Nat × Pt} (h : x ∈ begK led v) : x.1 < v.length := by
  obtain ⟨e, h1, _⟩ := begK_mem h
  by_cases hc : x.1 < v.length
  · exact hc
  · rw [List.getElem?_eq_none (by omega)] at h1; cases h1
theorem cmp_le {s t : Nat} (hs : s ≤ 100000) (ht : t ≤ 100000) : decide (Rt.cmp (q96 s) (q96 t) ≤ 0) = decide (s ≤ t) := by
  rw [q96_cmp (by omega) (by omega)]
  unfold sgn
  refine decide_eq_decide.2 ?_
  split <;> (try split) <;> omega
theorem cmp_lt0 {s t : Nat} (hs : s ≤ 100000) (ht : t ≤ 100000) : decide (Rt.cmp (q96 s) (q96 t) < 0) = decide (s < t) := by
  rw [q96_cmp (by omega) (by omega)]
  unfold sgn
  refine decide_eq_decide.2 ?_
  split <;> (try split) <;> omega
theorem cmp_gt0 {s t : Nat} (hs : s ≤ 100000) (ht : t ≤ 100000) : decide (0 < Rt.cmp (q96 s) (q96 t)) = decide (t < s) := by
  rw [q96_cmp (by omega) (by omega)]
  unfold sgn
  refine decide_eq_decide.2 ?_
  split <;> (try split) <;> omega
section
variable {R : Type} (kk : V → List Ob → Option R) (l : List Int) (A : Vo) (hA : madeV l 16 true = A) (h : A.fine) (K : List (Nat × Pt)) (eK : begK (fun _ => false) A = K) (hK : K.length ≤ 10000)
theorem sget {A : Vo} (h : A.fine) {K : List (Nat × Pt)} (eK : begK (fun _ => false) A = K) {i : Nat} {x : Nat × Pt} (hx : K[i]? = some x) : (Vo.sounds A).1[i]? = some (snd A x) := by
  rw [h.sounds_eq, eK, List.getElem?_map, hx]; rfl
include hA h eK hK
/-- the first loop: each lies in the voice, in order -/
theorem f3_first (hn : Run3 kk f3t19 (f3s1 l 0 0 0 A)) : ∀ (d i : Nat), i + d = K.length → Run3 kk f3t11 (f3s0 l i A (q96 (pos A A.length))) := by
  have hS : (Vo.sounds A).1.length = K.length := by rw [h.sounds_eq, eK, List.length_map]
  intro d
  induction d with
  | zero =>
    intro i hi
    obtain ⟨N, hN⟩ := hn
    refine ⟨N + 1, ?_⟩
    rw [vrun_succ, f3_0, hA, hS, bif_neg (by exact decide_eq_false (by omega))]
    exact hN
  | succ d ih =>
    intro i hi
    obtain ⟨N, hN⟩ := ih (i + 1) (by omega)
    obtain ⟨x, hx⟩ : ∃ x, K[i]? = some x := ⟨K[i], List.getElem?_eq_getElem (by omega)⟩
    have hm : x ∈ begK (fun _ => false) A := by rw [eK]; exact List.mem_of_getElem? hx
    have hxl := begK_lt hm
    have he := endK_le x.2 hxl
    have m1 := h.most x.1
    have m2 := h.most (endK A x.1 x.2)
    have m3 := h.most A.length
    have m4 := h.lt (j := x.1) (k := endK A x.1 x.2) he.1 he.2
    have m5 := h.mono (j := endK A x.1 x.2) (k := A.length) he.2 (Nat.le_refl _)
    have c1 : decide ((q96 (pos A x.1)).1 < 0) = false := decide_eq_false (by have := q96_nonneg (pos A x.1); omega)
    have c2 : decide ((q96 (pos A (endK A x.1 x.2) - pos A x.1)).1 ≤ 0) = false := decide_eq_false (by have := q96_pos (t := pos A (endK A x.1 x.2) - pos A x.1) (by omega); omega)
    have c3 : decide (0 < Rt.cmp (q96 (pos A (endK A x.1 x.2))) (q96 (pos A A.length))) = false := by rw [cmp_gt0 (by omega) (by omega)]; exact decide_eq_false (by omega)
    refine ⟨N + 1, ?_⟩
    rw [vrun_succ, f3_0, hA, hS, bif_pos (by exact decide_eq_true (by omega)), idx_nat, sget h eK hx]
    dsimp only [snd, Vm.soN]
    rw [show (((q96 (pos A x.1)).fst, (q96 (pos A x.1)).snd) : Int × Int) = q96 (pos A x.1) from rfl, show (((q96 (pos A (endK A x.1 x.2) - pos A x.1)).fst, (q96 (pos A (endK A x.1 x.2) - pos A x.1)).snd) : Int × Int) = q96 (pos A (endK A x.1 x.2) - pos A x.1) from rfl,
      snd_add h hxl, q96_i64 _ (by omega), q96_i64 _ (by omega), c1, c2]
    dsimp only
    rw [q96_i64 _ (by omega), q96_i64 _ (by omega), c3, wrap_succ (by omega)]
    simp only [decide_true, Bool.and_self, Bool.not_true, cond_false, cond_true]
    by_cases h0 : i = 0
    · subst h0
      rw [bif_neg (by exact decide_eq_false (by omega))]
      exact hN
    · obtain ⟨j, rfl⟩ : ∃ j, i = j + 1 := ⟨i - 1, by omega⟩
      obtain ⟨y, hy⟩ : ∃ y, K[j]? = some y := ⟨K[j], List.getElem?_eq_getElem (by omega)⟩
      have hym : y ∈ begK (fun _ => false) A := by rw [eK]; exact List.mem_of_getElem? hy
      have hyl := begK_lt hym
      have m6 := h.most y.1
      have hs : y.1 ≤ x.1 := by
        have hp := begK_sorted A (fun _ => false)
        rw [eK] at hp
        have := List.pairwise_iff_getElem.1 hp j (j + 1) (by omega) (by omega) (by omega)
        rw [List.getElem?_eq_getElem (by omega)] at hy hx
        rw [Option.some.inj hy, Option.some.inj hx] at this
        exact this
      have c4 : decide (0 < Rt.cmp (q96 (pos A y.1)) (q96 (pos A x.1))) = false := by
        have := h.mono (j := y.1) (k := x.1) hs (by omega)
        rw [cmp_gt0 (by omega) (by omega)]; exact decide_eq_false (by omega)
      have w : IntKind.i64.wrap (((j + 1 : Nat) : Int) - 1) = (j : Int) := by rw [w64 (by omega) (by omega)]; omega
      rw [bif_pos (by exact decide_eq_true (by omega)), w, idx_nat, sget h eK hy]
      dsimp only [snd, Vm.soN]
      rw [show (((q96 (pos A y.1)).fst, (q96 (pos A y.1)).snd) : Int × Int) = q96 (pos A y.1) from rfl, q96_i64 _ (by omega), c4]
      exact hN
/-- the innermost loop: how many sounds there are at an event, of a pitch: with a tie -/
theorem f3_in3 (a b : Int) (k j : Nat) (e : Ev) (p : Pt) (he : A[k]? = some e) (hp : e.pitches[j]? = some p) (hj : j ≤ 1000)
    (hn : Run3 kk f3t22 (f3s2 l (IntKind.i64.wrap (a + 1)) (IntKind.i64.wrap (b + 1)) k ((j + 1 : Nat) : Int) A)) : ∀ (d i c : Nat), i + d = K.length → c + (K.drop i).countP (covK A k p) = 1 → c ≤ 1 →
    Run3 kk f3t29 (f3s3 l a b k j c i A) := by
  have hS : (Vo.sounds A).1.length = K.length := by rw [h.sounds_eq, eK, List.length_map]
  have hk : k < A.length := by
    by_cases hc : k < A.length
    · exact hc
    · rw [List.getElem?_eq_none (by omega)] at he; cases he
  intro d
  induction d with
  | zero =>
    intro i c hi hc _
    have hc1 : c = 1 := by
      rw [List.drop_eq_nil_of_le (by omega)] at hc
      exact hc
    subst hc1
    obtain ⟨N, hN⟩ := hn
    refine ⟨N + 1, ?_⟩
    rw [vrun_succ, f3_3, hA, hS, bif_neg (by exact decide_eq_false (by omega)), wrap_succ (by omega)]
    exact hN
  | succ d ih =>
    intro i c hi hc hc1
    obtain ⟨x, hx⟩ : ∃ x, K[i]? = some x := ⟨K[i], List.getElem?_eq_getElem (by omega)⟩
    have hd : K.drop i = x :: K.drop (i + 1) := by
      rw [List.getElem?_eq_getElem (by omega)] at hx
      rw [List.drop_eq_getElem_cons (by omega), Option.some.inj hx]
    have hm : x ∈ begK (fun _ => false) A := by rw [eK]; exact List.mem_of_getElem? hx
    have hxl := begK_lt hm
    have hend := endK_le x.2 hxl
    have m1 := h.most x.1
    have m2 := h.most (endK A x.1 x.2)
    have m3 := h.most k
    have m4 := h.lt (j := x.1) (k := endK A x.1 x.2) hend.1 hend.2
    rw [hd, List.countP_cons] at hc
    have step : ∀ c' : Nat, c' = c + (if covK A k p x = true then 1 else 0) → Run3 kk f3t29 (f3s3 l a b k j c' ((i + 1 : Nat) : Int) A) := fun c' hc' => ih (i + 1) c' (by omega) (by omega) (by omega)
    have c1 : decide (Rt.cmp (q96 (pos A x.1)) (q96 (pos A k)) ≤ 0) = decide (x.1 ≤ k) := by
      rw [cmp_le (by omega) (by omega)]; exact decide_eq_decide.2 (h.le_iff (by omega) (by omega))
    have c2 : decide (Rt.cmp (q96 (pos A k)) (q96 (pos A (endK A x.1 x.2))) < 0) = decide (k < endK A x.1 x.2) := by
      rw [cmp_lt0 (by omega) (by omega)]; exact decide_eq_decide.2 (h.lt_iff (by omega) hend.2)
    have c3 : (decide (x.2.1 = p.1) && (decide (x.2.2.1 = p.2.1) && decide (x.2.2.2 = p.2.2))) = decide (x.2 = p) := by
      obtain ⟨_, q1, q2, q3⟩ := x
      obtain ⟨p1, p2, p3⟩ := p
      rw [Bool.eq_iff_iff]
      simp only [Bool.and_eq_true, decide_eq_true_eq, Prod.mk.injEq]
    have key : Run3 kk f3t29 (f3s3 l a b k j ((c + (if covK A k p x = true then 1 else 0) : Nat) : Int) ((i + 1 : Nat) : Int) A) := step _ rfl
    obtain ⟨N, hN⟩ := key
    refine ⟨N + 1, ?_⟩
    rw [vrun_succ, f3_3, hA, hS, bif_pos (by exact decide_eq_true (by omega)), idx_nat, sget h eK hx, idx_nat, he]
    dsimp only [snd, Vm.soN]
    rw [show (((q96 (pos A x.1)).fst, (q96 (pos A x.1)).snd) : Int × Int) = q96 (pos A x.1) from rfl, show (((q96 (pos A (endK A x.1 x.2) - pos A x.1)).fst, (q96 (pos A (endK A x.1 x.2) - pos A x.1)).snd) : Int × Int) = q96 (pos A (endK A x.1 x.2) - pos A x.1) from rfl,
      snd_add h hxl, q96_i64 _ (by omega), q96_i64 _ (by omega), idx_nat, show (e.snd.fst)[j]? = some p from hp]
    dsimp only
    rw [idx_nat, h.start_get hk, c3, wrap_succ (by omega), wrap_succ (by omega)]
    dsimp only
    rw [q96_i64 _ (by omega), q96_i64 _ (by omega), c1, c2]
    simp only [Bool.and_self, cond_true]
    have hcov : covK A k p x = (decide (x.2 = p) && (decide (x.1 ≤ k) && decide (k < endK A x.1 x.2))) := rfl
    rw [hcov] at hN
    revert hN
    cases decide (x.2 = p) with
    | false => simp only [Bool.false_and, Bool.false_eq_true, if_false, Nat.add_zero, cond_false]; exact id
    | true =>
      cases decide (x.1 ≤ k) with
      | false => simp only [Bool.false_and, Bool.true_and, Bool.false_eq_true, if_false, Nat.add_zero, cond_false, cond_true]; exact id
      | true =>
        cases decide (k < endK A x.1 x.2) with
        | false => simp only [Bool.true_and, Bool.false_eq_true, if_false, Nat.add_zero, cond_false, cond_true]; exact id
        | true => simp only [Bool.true_and, if_true, cond_true]; exact id
/-- the same, without a tie -/
theorem f3_in4 (a b : Int) (k j : Nat) (e : Ev) (p : Pt) (he : A[k]? = some e) (hp : e.pitches[j]? = some p) (hj : j ≤ 1000)
    (hn : Run3 kk f3t22 (f3s2 l (IntKind.i64.wrap (a + 1)) b k ((j + 1 : Nat) : Int) A)) : ∀ (d i c : Nat), i + d = K.length → c + (K.drop i).countP (covK A k p) = 1 → c ≤ 1 →
    Run3 kk f3t29 (f3s4 l a b k j c i A) := by
  have hS : (Vo.sounds A).1.length = K.length := by rw [h.sounds_eq, eK, List.length_map]
  have hk : k < A.length := by
    by_cases hc : k < A.length
    · exact hc
    · rw [List.getElem?_eq_none (by omega)] at he; cases he
  intro d
  induction d with
  | zero =>
    intro i c hi hc _
    have hc1 : c = 1 := by
      rw [List.drop_eq_nil_of_le (by omega)] at hc
      exact hc
    subst hc1
    obtain ⟨N, hN⟩ := hn
    refine ⟨N + 1, ?_⟩
    rw [vrun_succ, f3_4, hA, hS, bif_neg (by exact decide_eq_false (by omega)), wrap_succ (by omega)]
    exact hN
  | succ d ih =>
    intro i c hi hc hc1
    obtain ⟨x, hx⟩ : ∃ x, K[i]? = some x := ⟨K[i], List.getElem?_eq_getElem (by omega)⟩
    have hd : K.drop i = x :: K.drop (i + 1) := by
      rw [List.getElem?_eq_getElem (by omega)] at hx
      rw [List.drop_eq_getElem_cons (by omega), Option.some.inj hx]
    have hm : x ∈ begK (fun _ => false) A := by rw [eK]; exact List.mem_of_getElem? hx
    have hxl := begK_lt hm
    have hend := endK_le x.2 hxl
    have m1 := h.most x.1
    have m2 := h.most (endK A x.1 x.2)
    have m3 := h.most k
    have m4 := h.lt (j := x.1) (k := endK A x.1 x.2) hend.1 hend.2
    rw [hd, List.countP_cons] at hc
    have c1 : decide (Rt.cmp (q96 (pos A x.1)) (q96 (pos A k)) ≤ 0) = decide (x.1 ≤ k) := by
      rw [cmp_le (by omega) (by omega)]; exact decide_eq_decide.2 (h.le_iff (by omega) (by omega))
    have c2 : decide (Rt.cmp (q96 (pos A k)) (q96 (pos A (endK A x.1 x.2))) < 0) = decide (k < endK A x.1 x.2) := by
      rw [cmp_lt0 (by omega) (by omega)]; exact decide_eq_decide.2 (h.lt_iff (by omega) hend.2)
    have c3 : (decide (x.2.1 = p.1) && (decide (x.2.2.1 = p.2.1) && decide (x.2.2.2 = p.2.2))) = decide (x.2 = p) := by
      obtain ⟨_, q1, q2, q3⟩ := x
      obtain ⟨p1, p2, p3⟩ := p
      rw [Bool.eq_iff_iff]
      simp only [Bool.and_eq_true, decide_eq_true_eq, Prod.mk.injEq]
    have key : Run3 kk f3t29 (f3s4 l a b k j ((c + (if covK A k p x = true then 1 else 0) : Nat) : Int) ((i + 1 : Nat) : Int) A) := ih (i + 1) _ (by omega) (by omega) (by omega)
    obtain ⟨N, hN⟩ := key
    refine ⟨N + 1, ?_⟩
    rw [vrun_succ, f3_4, hA, hS, bif_pos (by exact decide_eq_true (by omega)), idx_nat, sget h eK hx, idx_nat, he]
    dsimp only [snd, Vm.soN]
    rw [show (((q96 (pos A x.1)).fst, (q96 (pos A x.1)).snd) : Int × Int) = q96 (pos A x.1) from rfl, show (((q96 (pos A (endK A x.1 x.2) - pos A x.1)).fst, (q96 (pos A (endK A x.1 x.2) - pos A x.1)).snd) : Int × Int) = q96 (pos A (endK A x.1 x.2) - pos A x.1) from rfl,
      snd_add h hxl, q96_i64 _ (by omega), q96_i64 _ (by omega), idx_nat, show (e.snd.fst)[j]? = some p from hp]
    dsimp only
    rw [idx_nat, h.start_get hk, c3, wrap_succ (by omega), wrap_succ (by omega)]
    dsimp only
    rw [q96_i64 _ (by omega), q96_i64 _ (by omega), c1, c2]
    simp only [Bool.and_self, cond_true]
    have hcov : covK A k p x = (decide (x.2 = p) && (decide (x.1 ≤ k) && decide (k < endK A x.1 x.2))) := rfl
    rw [hcov] at hN
    revert hN
    cases decide (x.2 = p) with
    | false => simp only [Bool.false_and, Bool.false_eq_true, if_false, Nat.add_zero, cond_false]; exact id
    | true =>
      cases decide (x.1 ≤ k) with
      | false => simp only [Bool.false_and, Bool.true_and, Bool.false_eq_true, if_false, Nat.add_zero, cond_false, cond_true]; exact id
      | true =>
        cases decide (k < endK A x.1 x.2) with
        | false => simp only [Bool.true_and, Bool.false_eq_true, if_false, Nat.add_zero, cond_false, cond_true]; exact id
        | true => simp only [Bool.true_and, if_true, cond_true]; exact id
/-- the pitches of an event -/
theorem f3_mid (k : Nat) (e : Ev) (he : A[k]? = some e) (P T : Nat) (hP : P + 100 ≤ 100000) (hT : T + 100 ≤ 100000)
    (hn : Run3 kk f3t19 (f3s1 l ((P + e.pitches.length : Nat) : Int) ((T + tieN e : Nat) : Int) ((k + 1 : Nat) : Int) A)) : ∀ (d j : Nat), j + d = e.pitches.length →
    Run3 kk f3t22 (f3s2 l ((P + j : Nat) : Int) ((T + (e.ties.take j).countP id : Nat) : Int) k j A) := by
  have hm := List.mem_of_getElem? he
  have sh := Ev.nice_shape (h.nice e hm)
  have hk : k < A.length := by
    by_cases hc : k < A.length
    · exact hc
    · rw [List.getElem?_eq_none (by omega)] at he; cases he
  have hkl := h.short
  intro d
  induction d with
  | zero =>
    intro j hj
    obtain ⟨N, hN⟩ := hn
    refine ⟨N + 1, ?_⟩
    have hj' : j = e.pitches.length := by omega
    rw [vrun_succ, f3_2, idx_nat, he]
    dsimp only
    rw [bif_neg (by exact decide_eq_false (by show ¬ ((j : Int) < (e.pitches.length : Int)); omega)), wrap_succ (by omega), List.take_of_length_le (by omega), hj']
    exact hN
  | succ d ih =>
    intro j hj
    have hjl : j < e.pitches.length := by omega
    obtain ⟨p, hp⟩ : ∃ p, e.pitches[j]? = some p := ⟨e.pitches[j], List.getElem?_eq_getElem hjl⟩
    obtain ⟨t, ht⟩ : ∃ t, e.ties[j]? = some t := ⟨e.ties[j], List.getElem?_eq_getElem (by omega)⟩
    have hc : 0 + (K.drop 0).countP (covK A k p) = 1 := by
      rw [List.drop_zero, ← eK, cov_count A k p _ e he (List.mem_of_getElem? hp) (fun x hx => (Ev.nice_shape (h.nice x hx)).1), if_neg (fun hh => by cases hh.1)]
    have htc : (e.ties.take j).countP id ≤ 8 := by
      have := List.countP_le_length (p := id) (l := e.ties.take j)
      rw [List.length_take] at this
      omega
    have hts : (e.ties.take (j + 1)).countP id = (e.ties.take j).countP id + (if t = true then 1 else 0) := by
      rw [List.take_add_one, ht, List.countP_append]
      cases t <;> rfl
    have hr := ih (j + 1) (by omega)
    rw [hts] at hr
    have w1 : IntKind.i64.wrap (((P + j : Nat) : Int) + 1) = ((P + (j + 1) : Nat) : Int) := by rw [w64 (by omega) (by omega)]; omega
    have w2 : IntKind.i64.wrap (((T + (e.ties.take j).countP id : Nat) : Int) + 1) = ((T + ((e.ties.take j).countP id + 1) : Nat) : Int) := by rw [w64 (by omega) (by omega)]; omega
    cases t with
    | true =>
      obtain ⟨N, hN⟩ := f3_in3 kk l A hA h K eK hK ((P + j : Nat) : Int) ((T + (e.ties.take j).countP id : Nat) : Int) k j e p he hp (by omega) (by rw [w1, w2]; exact hr) K.length 0 0 (by omega) hc (by omega)
      refine ⟨N + 1, ?_⟩
      rw [vrun_succ, f3_2, idx_nat, he]
      dsimp only
      rw [bif_pos (by exact decide_eq_true (by show (j : Int) < (e.pitches.length : Int); omega)), idx_nat, show (e.snd.snd.fst)[j]? = some true from ht]
      exact hN
    | false =>
      obtain ⟨N, hN⟩ := f3_in4 kk l A hA h K eK hK ((P + j : Nat) : Int) ((T + (e.ties.take j).countP id : Nat) : Int) k j e p he hp (by omega) (by rw [w1]; exact hr) K.length 0 0 (by omega) hc (by omega)
      refine ⟨N + 1, ?_⟩
      rw [vrun_succ, f3_2, idx_nat, he]
      dsimp only
      rw [bif_pos (by exact decide_eq_true (by show (j : Int) < (e.pitches.length : Int); omega)), idx_nat, show (e.snd.snd.fst)[j]? = some false from ht]
      exact hN
/-- all events -/
theorem f3_out (hlen : K.length + tiesN A = pitN A) : ∀ (d k : Nat), k + d = A.length → Run3 kk f3t19 (f3s1 l ((pitN (A.take k) : Nat) : Int) ((tiesN (A.take k) : Nat) : Int) k A) := by
  have hS : (Vo.sounds A).1.length = K.length := by rw [h.sounds_eq, eK, List.length_map]
  have hkl := h.short
  have bound : ∀ v : Vo, (∀ e ∈ v, e.nice) → pitN v ≤ 8 * v.length ∧ tiesN v ≤ 8 * v.length := by
    intro v
    induction v with
    | nil => intro _; exact ⟨Nat.zero_le _, Nat.zero_le _⟩
    | cons e r ih =>
      intro hv
      have := ih (fun x hx => hv x (List.mem_cons_of_mem _ hx))
      have sh := Ev.nice_shape (hv e (by simp))
      have ht : tieN e ≤ 8 := by
        have := List.countP_le_length (p := id) (l := e.ties)
        unfold tieN
        omega
      simp only [pitN, tiesN, List.map_cons, List.sum_cons, List.length_cons] at this ⊢
      omega
  intro d
  induction d with
  | zero =>
    intro k hk
    have hb := bound A h.nice
    refine ⟨1, ?_⟩
    rw [vrun_succ, f3_1, hA, hS, List.take_of_length_le (by omega), bif_neg (by exact decide_eq_false (by omega)), w64 (by omega) (by omega)]
    rw [decide_eq_true (show ((K.length : Nat) : Int) = (pitN A : Int) - (tiesN A : Int) by omega)]
  | succ d ih =>
    intro k hk
    have hkl' : k < A.length := by omega
    obtain ⟨e, he⟩ : ∃ e, A[k]? = some e := ⟨A[k], List.getElem?_eq_getElem hkl'⟩
    have hb := bound (A.take k) (fun x hx => h.nice x (List.mem_of_mem_take hx))
    rw [List.length_take] at hb
    have hr := ih (k + 1) (by omega)
    rw [List.take_add_one, he] at hr
    have e1 : pitN (A.take k ++ (some e).toList) = pitN (A.take k) + e.pitches.length := by
      simp only [pitN, Option.toList_some, List.map_append, List.sum_append, List.map_cons, List.map_nil, List.sum_cons, List.sum_nil]
      omega
    have e2 : tiesN (A.take k ++ (some e).toList) = tiesN (A.take k) + tieN e := by
      simp only [tiesN, Option.toList_some, List.map_append, List.sum_append, List.map_cons, List.map_nil, List.sum_cons, List.sum_nil]
      omega
    rw [e1, e2] at hr
    obtain ⟨N, hN⟩ := f3_mid kk l A hA h K eK hK k e he (pitN (A.take k)) (tiesN (A.take k)) (by omega) (by omega) hr e.pitches.length 0 (by omega)
    refine ⟨N + 1, ?_⟩
    rw [vrun_succ, f3_1, bif_pos (by exact decide_eq_true (by omega))]
    exact hN
end
theorem f3_run {R : Type} (kk : V → List Ob → Option R) (l : List Int) (hl : bytesOk (l.take 400) = true) :
    ∃ N, vrun (E29 8) f3cuts 0 100000 (vend (E29 8) 0 (fb Tryd.f3).1.results.toList false kk) N [.code (fb Tryd.f3).2] (start [enc false (.cons (.sl rU8) .nil) l] []) = kk (.bool true) [] := by
  have gl : madeG l 16 = true := by simp only [madeG, hl]; rfl
  have h := madeV_fine true hl (m := 16) (by omega)
  have ta : ∀ e, (madeV l 16 true).getLast? = some e → ∀ q, e.tied q = false := fun e he => madeV_last he
  obtain ⟨A, hA⟩ : ∃ A, madeV l 16 true = A := ⟨_, rfl⟩
  rw [hA] at h ta
  obtain ⟨K, eK⟩ : ∃ K, begK (fun _ => false) A = K := ⟨_, rfl⟩
  have hlen := begK_count A h.nice h.tie ta
  rw [eK] at hlen
  have hK : K.length ≤ 10000 := by
    have bound : ∀ v : Vo, (∀ e ∈ v, e.nice) → pitN v ≤ 8 * v.length := by
      intro v
      induction v with
      | nil => intro _; exact Nat.zero_le _
      | cons e r ih =>
        intro hv
        have := ih (fun x hx => hv x (List.mem_cons_of_mem _ hx))
        have sh := Ev.nice_shape (hv e (by simp))
        simp only [pitN, List.map_cons, List.sum_cons, List.length_cons] at this ⊢
        omega
    have := bound A h.nice
    have := h.short
    omega
  have ho := f3_out kk l A hA h K eK hK (by omega) A.length 0 (by omega)
  obtain ⟨N, hN⟩ := f3_first kk l A hA h K eK hK ho K.length 0 (by omega)
  refine ⟨N + 1, ?_⟩
  rw [vrun_succ]
  refine (f3_go _ kk l).trans ?_
  have s1 : (Vo.sounds A).2 = 0 := by rw [h.sounds]
  have s2 : (Vo.starts A).2 = 0 := by rw [h.starts]
  rw [gl, hA, h.soundsOk, h.ok, s1, s2, h.start_len, h.len]
  simp only [decide_true, Bool.not_true, cond_false, cond_true]
  exact hN
end Vm.S07

namespace Go.Proofs.YtgkanaehhjkieaaDoor
open Go.ChangeShapes Go.WideShapes Go.ChangeAt Go.WideMaps Go.WideElems Go.RowKit Vm
theorem own : ownKnob Tryd.prog.godebug = none := by kernel_rfl
theorem laidOut : laidOutB Tryd.prog = true := by kernel_rfl
theorem g_accept : Tryd.prog.globalNamed "unicode/utf8.acceptRanges" = some 2 := by kernel_rfl
theorem t_accept : (Tryd.prog.globals[2]?).map (·.type) = some 134 := by kernel_rfl
theorem g_half : Tryd.prog.globalNamed "partita/pitch.halfTones" = some 3 := by kernel_rfl
theorem t_half : (Tryd.prog.globals[3]?).map (·.type) = some 137 := by kernel_rfl
theorem g_dotted : Tryd.prog.globalNamed "partita/value.dotted" = some 4 := by kernel_rfl
theorem t_dotted : (Tryd.prog.globals[4]?).map (·.type) = some 142 := by kernel_rfl
theorem g_kinds : Tryd.prog.globalNamed "partita/value.kinds" = some 0 := by kernel_rfl
theorem t_kinds : (Tryd.prog.globals[0]?).map (·.type) = some 114 := by kernel_rfl
theorem g_first : Tryd.prog.globalNamed "unicode/utf8.first" = some 1 := by kernel_rfl
theorem t_first : (Tryd.prog.globals[1]?).map (·.type) = some 131 := by kernel_rfl
abbrev theLaid : List (String × DataW Unit) := [("unicode/utf8.acceptRanges", Rows.laid_unicode_utf8_acceptRanges), ("partita/pitch.halfTones", Rows.laid_partita_pitch_halfTones), ("partita/value.dotted", Rows.laid_partita_value_dotted), ("partita/value.kinds", Rows.laid_partita_value_kinds), ("unicode/utf8.first", Rows.laid_unicode_utf8_first)]
theorem globs {W : World} (h : laidMetH Tryd.prog theLaid W) : ∀ g r xs, S07.gls.g g = some ⟨r, xs⟩ → allOld W g ∧ ∀ (i : Nat) x, xs[i]? = some x → Ks.Rep W (allOld W) r x g (i * r.len) := by
  rw [MakeChecks.laidMetH_plain _ _ _ (by kernel_rfl)] at h
  obtain ⟨ps, ⟨g0, t0, cs0, f0, p0, q0, hg0, ht0, hv0, hd0, ⟨g1, t1, cs1, f1, p1, q1, hg1, ht1, hv1, hd1, ⟨g2, t2, cs2, f2, p2, q2, hg2, ht2, hv2, hd2, ⟨g3, t3, cs3, f3, p3, q3, hg3, ht3, hv3, hd3, ⟨g4, t4, cs4, f4, p4, q4, hg4, ht4, hv4, hd4, _, _⟩, _⟩, _⟩, _⟩, _⟩, _, _⟩ := h
  intro g r xs hg
  have h2 := glob_of (name := "unicode/utf8.acceptRanges") g_accept t_accept (.cons (.int .u8) (.cons (.int .u8) .nil)) utf8Accept (by kernel_rfl) (by kernel_rfl) (by decide) (by rfl) hg0 ht0 hv0 hd0
  have h3 := glob_of (name := "partita/pitch.halfTones") g_half t_half (.cons (.int .i64) .nil) glHalf (by kernel_rfl) (by kernel_rfl) (by decide) (by rfl) hg1 ht1 hv1 hd1
  have h4 := glob_of (name := "partita/value.dotted") g_dotted t_dotted (.cons (.int .i64) (.cons (.int .i64) .nil)) glDotted (by kernel_rfl) (by kernel_rfl) (by decide) (by rfl) hg2 ht2 hv2 hd2
  have h0 := glob_of (name := "partita/value.kinds") g_kinds t_kinds (.cons (.int .i64) (.cons (.int .i64) (.cons (.int .i64) (.cons (.int .i64) .nil)))) glKinds (by kernel_rfl) (by kernel_rfl) (by decide) (by rfl) hg3 ht3 hv3 hd3
  have h1 := glob_of (name := "unicode/utf8.first") g_first t_first (.cons (.int .u8) .nil) utf8First (by kernel_rfl) (by kernel_rfl) (by decide) (by rfl) hg4 ht4 hv4 hd4
  simp only [S07.gls, Vm.look] at hg
  split at hg
  · rename_i e; subst e; cases hg; exact h0
  · skip
    split at hg
    · rename_i e; subst e; cases hg; exact h1
    · skip
      split at hg
      · rename_i e; subst e; cases hg; exact h2
      · skip
        split at hg
        · rename_i e; subst e; cases hg; exact h3
        · skip
          split at hg
          · rename_i e; subst e; cases hg; exact h4
          · cases hg

noncomputable abbrev W0 (os : Os) : World := World.laidAll Tryd.prog os theLaid
theorem laid_met (os : Os) (args : Array Value) : laidMetH Tryd.prog theLaid ((W0 os).forCall (fun _ _ => 0) ⟨#[], args, []⟩).memory := by
  rw [MakeChecks.laidMetH_plain _ _ _ (by kernel_rfl)]
  exact laidMet_laidAll _ (by kernel_rfl) (by kernel_rfl)
theorem shaped (os : Os) : (W0 os).Shaped Tryd.prog := World.shaped_of_ZipB (by kernel_rfl) (by kernel_rfl)
def wEv : Value := .agg #[.int .i64 0, .slice none 0 0, .slice none 0 0, .int .i64 0, .int .i64 0, .int .i64 0, .int .i64 0, .slice none 0 0, .string ⟨#[]⟩]

abbrev wVal : Value := .agg #[.int .i64 0, .int .i64 0, .int .i64 0, .int .i64 0]
abbrev wIv : Value := .agg #[.int .i64 0, .int .i64 0]
abbrev rU8 : Ks := .cons (.int .u8) .nil
theorem wf_u8 {n : Int} (h : (Lit.int .u8 n).wf = true) : (0 : Int) ≤ n ∧ n ≤ (255 : Int) := by
  simp [Lit.wf, IntKind.min, IntKind.max, IntKind.signed, IntKind.bits] at h; omega
theorem wf_i64 {n : Int} (h : (Lit.int .i64 n).wf = true) : (-9223372036854775808 : Int) ≤ n ∧ n ≤ (9223372036854775807 : Int) := by
  simp [Lit.wf, IntKind.min, IntKind.max, IntKind.signed, IntKind.bits] at h; omega
end Go.Proofs.YtgkanaehhjkieaaDoor

open Go
namespace Vm
theorem bytes_ok {x : List Int} (h : Ks.okD (.cons (.sl (.cons (.int .u8) .nil)) .nil) x) : bytesOk (x.take 400) = true := by
  simp only [Ks.okD, K.okD] at h
  simp only [bytesOk, Bool.and_eq_true, decide_eq_true_eq]
  refine ⟨by rw [List.length_take]; omega, List.all_eq_true.2 fun b hb => ?_⟩
  obtain ⟨i, hi, he⟩ := List.mem_iff_getElem.1 (List.mem_of_mem_take hb)
  have hg : (x : List Int)[i]? = some b := by rw [List.getElem?_eq_getElem hi, he]
  have := h.2 i b hg
  exact decide_eq_true (Go.Proofs.YtgkanaehhjkieaaDoor.wf_u8 this)
theorem wf_u16 {n : Int} (h : (Lit.int .u16 n).wf = true) : (0 : Int) ≤ n ∧ n ≤ (65535 : Int) := by
  simp [Lit.wf, IntKind.min, IntKind.max, IntKind.signed, IntKind.bits] at h; omega
end Vm

