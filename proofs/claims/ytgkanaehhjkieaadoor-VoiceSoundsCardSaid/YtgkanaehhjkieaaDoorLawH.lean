/- Voices by bytes: what is made, in plain words and as runs of the value machine. -/
import Derived.Test.YtgkanaehhjkieaaDoorWords
import Derived.Test.YtgkanaehhjkieaaDoorLawG
import Derived.Test.YtgkanaehhjkieaaDoorVmE
import Derived.KernelRfl
set_option maxRecDepth 100000
/- Voices by bytes, in plain words. -/
open Go
namespace Vm
/-- the byte at a place, and the place behind -/
def mkB (l : List Int) (n : Nat) : Int := l[n]?.getD 0
def mkN (l : List Int) (n : Nat) : Nat := if n < l.length then n + 1 else n
def bytesOk (l : List Int) : Bool := decide (l.length ≤ 1000) && l.all (fun b => decide (0 ≤ b ∧ b ≤ 255))
theorem mkB_range {l : List Int} (h : bytesOk l = true) (n : Nat) : 0 ≤ mkB l n ∧ mkB l n ≤ 255 := by
  simp only [bytesOk, Bool.and_eq_true] at h
  unfold mkB
  cases hl : l[n]? with
  | none => exact ⟨Int.le_refl _, by decide⟩
  | some b => exact of_decide_eq_true (List.all_eq_true.1 h.2 b (List.mem_of_getElem? hl))
theorem mkN_le {l : List Int} {n : Nat} (h : n ≤ l.length) : mkN l n ≤ l.length := by unfold mkN; split <;> omega
/-- where a pitch is put -/
def posW (p : Pt) : List Pt → Nat
  | [] => 0
  | q :: r => if Pt.cmp q p < 0 then posW p r + 1 else 0
def hasW (p : Pt) (ps : List Pt) : Bool := match ps[posW p ps]? with
  | some q => beqP q p
  | none => false
def insW (p : Pt) (ps : List Pt) : List Pt := ps.take (posW p ps) ++ [p] ++ ps.drop (posW p ps)
theorem posW_le (p : Pt) : ∀ ps : List Pt, posW p ps ≤ ps.length
  | [] => Nat.le_refl _
  | q :: r => by
    have := posW_le p r
    simp only [posW]
    split <;> simp only [List.length_cons] <;> omega
/-- a value by three bytes -/
def mkV (l : List Int) (n : Nat) : Vl :=
  (1 + (mkB l n).tmod 4, ((mkB l (mkN l n)).tmod 5).tdiv 4, if (mkB l (mkN l (mkN l n))).tmod 6 = 0 then 3 else 0, if (mkB l (mkN l (mkN l n))).tmod 6 = 0 then 2 else 0)
def mkVN (l : List Int) (n : Nat) : Nat := mkN l (mkN l (mkN l n))
end Vm

/- Events by bytes, in plain words. -/
open Go
namespace Vm
/-- what there is of an event that is made: nothing yet, or pitches and ties -/
abbrev Mk := Option (List Pt × List Bool)
def withS (o : Mk) (p : Pt) : Mk := match o with
  | none => some ([p], [false])
  | some (ps, ts) => if hasW p ps then some (ps, ts) else some (insW p ps, List.replicate (ps.length + 1) false)
/-- what is tied goes on -/
def carryS : List Pt → List Bool → Mk → Mk
  | p :: ps, t :: ts, o => carryS ps ts (if t then withS o p else o)
  | _, _, o => o
def newP (l : List Int) (n : Nat) : Pt := ((mkB l n).tmod 7, 0, 4 + (mkB l (mkN l n)).tmod 2)
def moreS (l : List Int) : Nat → Nat → Mk → Mk × Nat
  | 0, n, o => (o, n)
  | k + 1, n, o => moreS l k (mkN l (mkN l n)) (withS o (newP l n))
def countS (o : Mk) (b : Int) : Int := match o with
  | none => b.tmod 4
  | some (ps, _) => if 5 < ps.length then 0 else (b.tmod 4).tdiv 2
def tiesS (l : List Int) : List Bool → Nat → List Bool × Nat
  | [], n => ([], n)
  | _ :: r, n => (decide ((mkB l n).tmod 3 = 0) :: (tiesS l r (mkN l n)).1, (tiesS l r (mkN l n)).2)
def marksS (l : List Int) (n : Nat) : List Int × Nat := if (mkB l n).tmod 4 = 0 then ([1 + (mkB l (mkN l n)).tmod 4], mkN l (mkN l n)) else ([], mkN l n)
def endS (l : List Int) (v : Vl) : Mk × Nat → Ev × Nat
  | (none, n) => ((0, [], [], v.1, v.2.1, v.2.2.1, v.2.2.2, [], []), n)
  | (some (ps, ts), n) => ((1, ps, (tiesS l ts (marksS l n).2).1, v.1, v.2.1, v.2.2.1, v.2.2.2, (marksS l n).1, []), (tiesS l ts (marksS l n).2).2)
def firstS (ahead : Ev) : Mk := carryS ahead.pitches ahead.ties none
def eventS (l : List Int) (n : Nat) (ahead : Ev) : Ev × Nat :=
  endS l (mkV l n) (moreS l (countS (firstS ahead) (mkB l (mkVN l n))).toNat (mkN l (mkVN l n)) (firstS ahead))
/-- what holds of an event that is made -/
def Mk.ok (m : Nat) : Mk → Prop
  | none => True
  | some (ps, ts) => ps ≠ [] ∧ ts.length = ps.length ∧ ps.length ≤ m
theorem insW_len (p : Pt) (ps : List Pt) : (insW p ps).length = ps.length + 1 := by
  have := posW_le p ps
  simp only [insW, List.length_append, List.length_take, List.length_drop, List.length_cons, List.length_nil]; omega
theorem withS_ok {m : Nat} {o : Mk} (h : o.ok m) (p : Pt) : (withS o p).ok (m + 1) := by
  match o, h with
  | none, _ => exact ⟨by simp, rfl, by simp⟩
  | some (ps, ts), h =>
    obtain ⟨h1, h2, h3⟩ := h
    simp only [withS]
    split
    · exact ⟨h1, h2, by omega⟩
    · have := insW_len p ps
      exact ⟨fun e => by rw [e] at this; simp at this, by simp [this], by omega⟩
theorem Mk.ok_mono {m k : Nat} {o : Mk} (h : o.ok m) (hk : m ≤ k) : o.ok k := by
  match o, h with
  | none, _ => trivial
  | some (ps, ts), h => exact ⟨h.1, h.2.1, Nat.le_trans h.2.2 hk⟩
end Vm

/- Voices by bytes, in plain words. -/
open Go
namespace Vm
def Ev.loose (e : Ev) : Ev := (e.1, e.2.1, List.replicate e.2.1.length false, e.2.2.2.1, e.2.2.2.2.1, e.2.2.2.2.2.1, e.2.2.2.2.2.2.1, e.2.2.2.2.2.2.2.1, e.2.2.2.2.2.2.2.2)
/-- the last one ties nothing, if so -/
def lastS (ends : Bool) (k : Nat) (e : Ev) : Ev := if k = 0 then (if ends then e.loose else e) else e
def madeS (l : List Int) (ends : Bool) : Nat → Nat → Ev → List Ev
  | 0, _, _ => []
  | k + 1, n, a => lastS ends k (eventS l n a).1 :: madeS l ends k (eventS l n a).2 (lastS ends k (eventS l n a).1)
def madeN (l : List Int) (most : Int) : Int := (mkB (l.take 400) 0).tmod (most + 1)
def madeV (l : List Int) (most : Int) (ends : Bool) : Vo := madeS (l.take 400) ends (madeN l most).toNat (mkN (l.take 400) 0) zEv
theorem tiesS_len (l : List Int) : ∀ (ts : List Bool) (n : Nat), (tiesS l ts n).1.length = ts.length
  | [], _ => rfl
  | _ :: r, n => by simp only [tiesS, List.length_cons, tiesS_len l r]
theorem carryS_ok : ∀ (ps : List Pt) (ts : List Bool) (m : Nat) (o : Mk), o.ok m → (carryS ps ts o).ok (m + ts.length)
  | [], ts, m, o, h => by unfold carryS; exact Mk.ok_mono h (by omega)
  | p :: ps, [], m, o, h => by unfold carryS; exact Mk.ok_mono h (by omega)
  | p :: ps, t :: ts, m, o, h => by
    simp only [carryS]
    have : (if t then withS o p else o).ok (m + 1) := by
      cases t with
      | true => exact withS_ok h p
      | false => exact Mk.ok_mono h (by omega)
    exact Mk.ok_mono (carryS_ok ps ts (m + 1) _ this) (by simp only [List.length_cons]; omega)
theorem moreS_ok (l : List Int) : ∀ (k n m : Nat) (o : Mk), o.ok m → (moreS l k n o).1.ok (m + k)
  | 0, n, m, o, h => h
  | k + 1, n, m, o, h => Mk.ok_mono (moreS_ok l k _ (m + 1) _ (withS_ok h _)) (by omega)
theorem endS_ok {l : List Int} {v : Vl} {m : Nat} : ∀ {q : Mk × Nat}, q.1.ok m → (endS l v q).1.pitches.length = (endS l v q).1.ties.length ∧ (endS l v q).1.pitches.length ≤ m
  | (none, n), _ => ⟨rfl, Nat.zero_le _⟩
  | (some (ps, ts), n), h => ⟨by show ps.length = (tiesS l ts _).1.length; rw [tiesS_len, h.2.1], h.2.2⟩
theorem eventS_len {l : List Int} (hb : bytesOk l = true) (n : Nat) (a : Ev) : (eventS l n a).1.pitches.length = (eventS l n a).1.ties.length ∧ (eventS l n a).1.pitches.length ≤ a.ties.length + 3 := by
  have r := mkB_range hb (mkVN l n)
  have t1 := Int.tmod_nonneg 4 r.1
  have t2 := Int.tmod_lt_of_pos (mkB l (mkVN l n)) (b := 4) (by omega)
  have hc : countS (firstS a) (mkB l (mkVN l n)) ≤ 3 := by
    match firstS a with
    | none => simp only [countS]; omega
    | some (ps, ts) =>
      simp only [countS]
      split
      · omega
      · rw [Int.tdiv_eq_ediv_of_nonneg t1]; omega
  have h1 : (firstS a).ok (0 + a.ties.length) := carryS_ok a.pitches a.ties 0 none trivial
  have h2 := moreS_ok l (countS (firstS a) (mkB l (mkVN l n))).toNat (mkN l (mkVN l n)) _ _ h1
  exact endS_ok (Mk.ok_mono h2 (by omega))
theorem lastS_len (ends : Bool) (k : Nat) (e : Ev) (h : e.pitches.length = e.ties.length) : (lastS ends k e).pitches.length = (lastS ends k e).ties.length ∧ (lastS ends k e).pitches.length = e.pitches.length := by
  unfold lastS
  split
  · split
    · exact ⟨by show e.pitches.length = (List.replicate e.pitches.length false).length; rw [List.length_replicate], rfl⟩
    · exact ⟨h, rfl⟩
  · exact ⟨h, rfl⟩
end Vm

open Go Go.Proofs
namespace Vm.S07
noncomputable abbrev f25cuts : Cuts := fun _ => none
theorem f25_go {R : Type} (J : List Item → St → Option R) (kk : V → List Ob → Option R) (l : List Int) (n : Int) :
  vseg ((E25 8)) f25cuts 1 J (vend ((E25 8)) 1 (fb Tryd.f25).1.results.toList false kk) 100000 true [.code (fb Tryd.f25).2] (start ([V.ref (0 : Nat) (0 : Nat) (0 : Nat) (0 : Nat)]) ([Ob.var [V.sl (Ks.cons (K.int IntKind.u8) Ks.nil) l, V.int IntKind.i64 n]])) =
  (bif decide ((↑l.length : Int) ≤ n) then
    kk (V.int IntKind.i64 (0 : Int)) ([Ob.var [V.sl (Ks.cons (K.int IntKind.u8) Ks.nil) l, V.int IntKind.i64 n]])
  else (match idx l (IntKind.i64.wrap (IntKind.i64.wrap (n + (1 : Int)) - (1 : Int))) with
      | some y1 => kk (V.int IntKind.i64 (IntKind.i64.wrap y1)) ([Ob.var [V.sl (Ks.cons (K.int IntKind.u8) Ks.nil) l, V.int IntKind.i64 (IntKind.i64.wrap (n + (1 : Int)))]])
      | none => none)) := by kernel_rfl

noncomputable abbrev f55acuts : Cuts := look [(2, [2, 3, 4, 5]), (4, [2, 3, 4, 5])]
noncomputable abbrev f55at4 : List Item := itemsAt (fb Tryd.f55).2 4
noncomputable abbrev f55at2 : List Item := itemsAt (fb Tryd.f55).2 2
def f55as0 (n1 : Int) (n2 : Int) (n3 : Int) (n4 : Int) (n5 : Int) (n6 : Int) (s7 : List UInt8) (x8 : Int × Int × Int) (n9 : Int) (n10 : Int) (n11 : Int) (n12 : Int) (n13 : Int) (s14 : List UInt8) : St := { fr := [(2, V.ref 0 0 0 0), (3, V.ref 1 0 0 0), (4, V.ref 2 0 0 0), (5, V.int IntKind.i64 n1)], hp := [(0, Ob.var [V.int IntKind.i64 n2, V.nilsl, V.nilsl, V.int IntKind.i64 n3, V.int IntKind.i64 n4, V.int IntKind.i64 n5, V.int IntKind.i64 n6, V.nilsl, V.str s7]), (1, Ob.var [V.int IntKind.i64 x8.fst, V.int IntKind.i64 x8.snd.fst, V.int IntKind.i64 x8.snd.snd]), (2, Ob.var [V.int IntKind.i64 n9, V.nilsl, V.nilsl, V.int IntKind.i64 n10, V.int IntKind.i64 n11, V.int IntKind.i64 n12, V.int IntKind.i64 n13, V.nilsl, V.str s14])], nx := 3 }
def f55as1 (n15 : Int) (n16 : Int) (n17 : Int) (n18 : Int) (n19 : Int) (n20 : Int) (s21 : List UInt8) (x22 : Int × Int × Int) (n23 : Int) (n24 : Int) (n25 : Int) (n26 : Int) (n27 : Int) (s28 : List UInt8) : St := { fr := [(2, V.ref 0 0 0 0), (3, V.ref 1 0 0 0), (4, V.ref 2 0 0 0), (5, V.int IntKind.i64 n15)], hp := [(0, Ob.var [V.int IntKind.i64 n16, V.nilsl, V.nilsl, V.int IntKind.i64 n17, V.int IntKind.i64 n18, V.int IntKind.i64 n19, V.int IntKind.i64 n20, V.nilsl, V.str s21]), (1, Ob.var [V.int IntKind.i64 x22.fst, V.int IntKind.i64 x22.snd.fst, V.int IntKind.i64 x22.snd.snd]), (2, Ob.var [V.int IntKind.i64 n23, V.nilsl, V.nilsl, V.int IntKind.i64 n24, V.int IntKind.i64 n25, V.int IntKind.i64 n26, V.int IntKind.i64 n27, V.nilsl, V.str s28])], nx := 3 }
theorem f55a_go {R : Type} (J : List Item → St → Option R) (kk : V → List Ob → Option R) (k : Int) (a : Int) (b : Int) (c : Int) (d : Int) (w : List UInt8) (p : Int × Int × Int) :
  vseg ((E25 8)) f55acuts 0 J (vend ((E25 8)) 0 (fb Tryd.f55).1.results.toList true kk) 100000 true [.code (fb Tryd.f55).2] (start ([V.agg [V.int IntKind.i64 k, V.nilsl, V.nilsl, V.int IntKind.i64 a, V.int IntKind.i64 b, V.int IntKind.i64 c, V.int IntKind.i64 d, V.nilsl, V.str w], enc true rPitch p]) ([])) =
  J f55at2 (f55as0 (0 : Int) (k) (a) (b) (c) (d) (w) (p) (0 : Int) (0 : Int) (0 : Int) (0 : Int) (0 : Int) ([])) := by kernel_rfl
theorem f55a_0 {R : Type} (J : List Item → St → Option R) (kk : V → List Ob → Option R) (n1 : Int) (n2 : Int) (n3 : Int) (n4 : Int) (n5 : Int) (n6 : Int) (s7 : List UInt8) (x8 : Int × Int × Int) (n9 : Int) (n10 : Int) (n11 : Int) (n12 : Int) (n13 : Int) (s14 : List UInt8) :
  vseg ((E25 8)) f55acuts 0 J (vend ((E25 8)) 0 (fb Tryd.f55).1.results.toList true kk) 100000 true f55at2 (f55as0 n1 n2 n3 n4 n5 n6 s7 x8 n9 n10 n11 n12 n13 s14) =
  (bif decide (n1 < (0 : Int)) then
    none
  else J f55at4 (f55as1 (n1) (n2) (n3) (n4) (n5) (n6) (s7) (x8) (n9) (n10) (n11) (n12) (n13) (s14))) := by kernel_rfl
theorem f55a_1 {R : Type} (J : List Item → St → Option R) (kk : V → List Ob → Option R) (n15 : Int) (n16 : Int) (n17 : Int) (n18 : Int) (n19 : Int) (n20 : Int) (s21 : List UInt8) (x22 : Int × Int × Int) (n23 : Int) (n24 : Int) (n25 : Int) (n26 : Int) (n27 : Int) (s28 : List UInt8) :
  vseg ((E25 8)) f55acuts 0 J (vend ((E25 8)) 0 (fb Tryd.f55).1.results.toList true kk) 100000 true f55at4 (f55as1 n15 n16 n17 n18 n19 n20 s21 x22 n23 n24 n25 n26 n27 s28) =
  (bif decide (n15 < (0 : Int)) then
    none
  else (bif decide ((0 : Int) ≤ (0 : Int) ∧ (0 : Int) ≤ n15 ∧ n15 ≤ (↑(0 : Nat) : Int) ∧ (↑(0 : Nat) : Int) ≤ (↑(0 : Nat) : Int)) then
      (bif decide ((0 : Int) ≤ n15 ∧ n15 ≤ (↑(0 : Nat) : Int) ∧ (↑(0 : Nat) : Int) ≤ (↑(0 : Nat) : Int) ∧ (↑(0 : Nat) : Int) ≤ (↑(0 : Nat) : Int)) then
        kk (V.agg [V.int IntKind.i64 (1 : Int), V.sl (Ks.cons (K.int IntKind.i64) (Ks.cons (K.int IntKind.i64) (Ks.cons (K.int IntKind.i64) Ks.nil))) ([] ++ [x22] ++ []), V.own 0, V.int IntKind.i64 n17, V.int IntKind.i64 n18, V.int IntKind.i64 n19, V.int IntKind.i64 n20, V.nilsl, V.str s21]) ([Ob.arr (Ks.cons K.bool Ks.nil) (List.replicate (↑([] ++ [x22] ++ []).length : Int).toNat false) false])
      else none)
    else none)) := by kernel_rfl

noncomputable abbrev f55bcuts : Cuts := look [(2, [2, 3, 4, 5]), (4, [2, 3, 4, 5])]
noncomputable abbrev f55bt4 : List Item := itemsAt (fb Tryd.f55).2 4
noncomputable abbrev f55bt2 : List Item := itemsAt (fb Tryd.f55).2 2
def f55bs0 (n1 : Int) (l2 : List Bool) (n3 : Int) (l4 : List (Int × Int × Int)) (n5 : Int) (n6 : Int) (n7 : Int) (n8 : Int) (s9 : List UInt8) (x10 : Int × Int × Int) (n11 : Int) (n12 : Int) (n13 : Int) (n14 : Int) (n15 : Int) (s16 : List UInt8) : St := { fr := [(2, V.ref 1 0 0 0), (3, V.ref 2 0 0 0), (4, V.ref 3 0 0 0), (5, V.int IntKind.i64 n1)], hp := [(0, Ob.arr rB l2 false), (1, Ob.var [V.int IntKind.i64 n3, V.sl rPitch l4, V.own 0, V.int IntKind.i64 n5, V.int IntKind.i64 n6, V.int IntKind.i64 n7, V.int IntKind.i64 n8, V.nilsl, V.str s9]), (2, Ob.var [V.int IntKind.i64 x10.fst, V.int IntKind.i64 x10.snd.fst, V.int IntKind.i64 x10.snd.snd]), (3, Ob.var [V.int IntKind.i64 n11, V.nilsl, V.nilsl, V.int IntKind.i64 n12, V.int IntKind.i64 n13, V.int IntKind.i64 n14, V.int IntKind.i64 n15, V.nilsl, V.str s16])], nx := 4 }
def f55bs1 (n18 : Int) (l19 : List Bool) (n20 : Int) (l21 : List (Int × Int × Int)) (n22 : Int) (n23 : Int) (n24 : Int) (n25 : Int) (s26 : List UInt8) (x27 : Int × Int × Int) (n28 : Int) (n29 : Int) (n30 : Int) (n31 : Int) (n32 : Int) (s33 : List UInt8) : St := { fr := [(2, V.ref 1 0 0 0), (3, V.ref 2 0 0 0), (4, V.ref 3 0 0 0), (5, V.int IntKind.i64 n18)], hp := [(0, Ob.arr rB l19 false), (1, Ob.var [V.int IntKind.i64 n20, V.sl rPitch l21, V.own 0, V.int IntKind.i64 n22, V.int IntKind.i64 n23, V.int IntKind.i64 n24, V.int IntKind.i64 n25, V.nilsl, V.str s26]), (2, Ob.var [V.int IntKind.i64 x27.fst, V.int IntKind.i64 x27.snd.fst, V.int IntKind.i64 x27.snd.snd]), (3, Ob.var [V.int IntKind.i64 n28, V.nilsl, V.nilsl, V.int IntKind.i64 n29, V.int IntKind.i64 n30, V.int IntKind.i64 n31, V.int IntKind.i64 n32, V.nilsl, V.str s33])], nx := 4 }
theorem f55b_go {R : Type} (J : List Item → St → Option R) (kk : V → List Ob → Option R) (k : Int) (a : Int) (b : Int) (c : Int) (d : Int) (w : List UInt8) (ps : List (Int × Int × Int)) (ts : List Bool) (p : Int × Int × Int) :
  vseg ((E25 8)) f55bcuts 1 J (vend ((E25 8)) 1 (fb Tryd.f55).1.results.toList true kk) 100000 true [.code (fb Tryd.f55).2] (start ([V.agg [V.int IntKind.i64 k, V.sl rPitch ps, V.own (0 : Nat), V.int IntKind.i64 a, V.int IntKind.i64 b, V.int IntKind.i64 c, V.int IntKind.i64 d, V.nilsl, V.str w], enc true rPitch p]) ([Ob.arr rB ts false])) =
  J f55bt2 (f55bs0 (0 : Int) (ts) (k) (ps) (a) (b) (c) (d) (w) (p) (0 : Int) (0 : Int) (0 : Int) (0 : Int) (0 : Int) ([])) := by kernel_rfl
theorem f55b_0 {R : Type} (J : List Item → St → Option R) (kk : V → List Ob → Option R) (n1 : Int) (l2 : List Bool) (n3 : Int) (l4 : List (Int × Int × Int)) (n5 : Int) (n6 : Int) (n7 : Int) (n8 : Int) (s9 : List UInt8) (x10 : Int × Int × Int) (n11 : Int) (n12 : Int) (n13 : Int) (n14 : Int) (n15 : Int) (s16 : List UInt8) :
  vseg ((E25 8)) f55bcuts 1 J (vend ((E25 8)) 1 (fb Tryd.f55).1.results.toList true kk) 100000 true f55bt2 (f55bs0 n1 l2 n3 l4 n5 n6 n7 n8 s9 x10 n11 n12 n13 n14 n15 s16) =
  (bif decide (n1 < (↑l4.length : Int)) then
    (match idx l4 n1 with
      | some y17 => (bif decide (Pt.cmp y17 x10 < (0 : Int)) then
        J f55bt2 (f55bs0 (IntKind.i64.wrap (n1 + (1 : Int))) (l2) (n3) (l4) (n5) (n6) (n7) (n8) (s9) (x10) (n11) (n12) (n13) (n14) (n15) (s16))
      else J f55bt4 (f55bs1 (n1) (l2) (n3) (l4) (n5) (n6) (n7) (n8) (s9) (x10) (n11) (n12) (n13) (n14) (n15) (s16)))
      | none => none)
  else J f55bt4 (f55bs1 (n1) (l2) (n3) (l4) (n5) (n6) (n7) (n8) (s9) (x10) (n11) (n12) (n13) (n14) (n15) (s16))) := by kernel_rfl
theorem f55b_1 {R : Type} (J : List Item → St → Option R) (kk : V → List Ob → Option R) (n18 : Int) (l19 : List Bool) (n20 : Int) (l21 : List (Int × Int × Int)) (n22 : Int) (n23 : Int) (n24 : Int) (n25 : Int) (s26 : List UInt8) (x27 : Int × Int × Int) (n28 : Int) (n29 : Int) (n30 : Int) (n31 : Int) (n32 : Int) (s33 : List UInt8) :
  vseg ((E25 8)) f55bcuts 1 J (vend ((E25 8)) 1 (fb Tryd.f55).1.results.toList true kk) 100000 true f55bt4 (f55bs1 n18 l19 n20 l21 n22 n23 n24 n25 s26 x27 n28 n29 n30 n31 n32 s33) =
  (bif decide (n18 < (↑l21.length : Int)) then
    (match idx l21 n18 with
      | some y34 => (bif decide (y34.fst = x27.fst) && (decide (y34.snd.fst = x27.snd.fst) && decide (y34.snd.snd = x27.snd.snd)) then
        kk (V.agg [V.int IntKind.i64 n20, V.sl rPitch l21, V.own 0, V.int IntKind.i64 n22, V.int IntKind.i64 n23, V.int IntKind.i64 n24, V.int IntKind.i64 n25, V.nilsl, V.str s26]) ([Ob.arr rB l19 false])
      else (bif decide ((0 : Int) ≤ (0 : Int) ∧ (0 : Int) ≤ n18 ∧ n18 ≤ (↑l21.length : Int) ∧ (↑l21.length : Int) ≤ (↑l21.length : Int)) then
          (bif decide ((List.take (n18.toNat - Int.toNat (0 : Int)) (List.drop (Int.toNat (0 : Int)) l21)).length * 24 ≤ bytesMost) then
            (bif decide (((List.take (n18.toNat - Int.toNat (0 : Int)) (List.drop (Int.toNat (0 : Int)) l21)).length + 1) * 24 ≤ bytesMost) then
              (bif decide ((0 : Int) ≤ n18 ∧ n18 ≤ (↑l21.length : Int) ∧ (↑l21.length : Int) ≤ (↑l21.length : Int) ∧ (↑l21.length : Int) ≤ (↑l21.length : Int)) then
                (bif decide (((List.take (n18.toNat - Int.toNat (0 : Int)) (List.drop (Int.toNat (0 : Int)) l21) ++ [x27]).length + (List.take ((↑l21.length : Int).toNat - n18.toNat) (List.drop n18.toNat l21)).length) * 24 ≤ bytesMost) then
                  (bif decide ((0 : Int) ≤ (↑(List.take (n18.toNat - Int.toNat (0 : Int)) (List.drop (Int.toNat (0 : Int)) l21) ++ [x27] ++ List.take ((↑l21.length : Int).toNat - n18.toNat) (List.drop n18.toNat l21)).length : Int) ∧ (↑(List.take (n18.toNat - Int.toNat (0 : Int)) (List.drop (Int.toNat (0 : Int)) l21) ++ [x27] ++ List.take ((↑l21.length : Int).toNat - n18.toNat) (List.drop n18.toNat l21)).length : Int) ≤ (↑(List.take (n18.toNat - Int.toNat (0 : Int)) (List.drop (Int.toNat (0 : Int)) l21) ++ [x27] ++ List.take ((↑l21.length : Int).toNat - n18.toNat) (List.drop n18.toNat l21)).length : Int) ∧ (↑(List.take (n18.toNat - Int.toNat (0 : Int)) (List.drop (Int.toNat (0 : Int)) l21) ++ [x27] ++ List.take ((↑l21.length : Int).toNat - n18.toNat) (List.drop n18.toNat l21)).length : Int) * (↑1 : Int) ≤ (↑bytesMost : Int) ∧ (↑(List.take (n18.toNat - Int.toNat (0 : Int)) (List.drop (Int.toNat (0 : Int)) l21) ++ [x27] ++ List.take ((↑l21.length : Int).toNat - n18.toNat) (List.drop n18.toNat l21)).length : Int) ≤ (↑bytesMost : Int) ∧ 1 = (Ks.cons K.bool Ks.nil).len ∧ (0 : Nat) < 1) then
                    kk (V.agg [V.int IntKind.i64 (1 : Int), V.sl (Ks.cons (K.int IntKind.i64) (Ks.cons (K.int IntKind.i64) (Ks.cons (K.int IntKind.i64) Ks.nil))) (List.take (n18.toNat - Int.toNat (0 : Int)) (List.drop (Int.toNat (0 : Int)) l21) ++ [x27] ++ List.take ((↑l21.length : Int).toNat - n18.toNat) (List.drop n18.toNat l21)), V.own 1, V.int IntKind.i64 n22, V.int IntKind.i64 n23, V.int IntKind.i64 n24, V.int IntKind.i64 n25, V.nilsl, V.str s26]) ([Ob.arr rB l19 false, Ob.arr (Ks.cons K.bool Ks.nil) (List.replicate (↑(List.take (n18.toNat - Int.toNat (0 : Int)) (List.drop (Int.toNat (0 : Int)) l21) ++ [x27] ++ List.take ((↑l21.length : Int).toNat - n18.toNat) (List.drop n18.toNat l21)).length : Int).toNat false) false])
                  else none)
                else none)
              else none)
            else none)
          else none)
        else none))
      | none => none)
  else (bif decide ((0 : Int) ≤ (0 : Int) ∧ (0 : Int) ≤ n18 ∧ n18 ≤ (↑l21.length : Int) ∧ (↑l21.length : Int) ≤ (↑l21.length : Int)) then
      (bif decide ((List.take (n18.toNat - Int.toNat (0 : Int)) (List.drop (Int.toNat (0 : Int)) l21)).length * 24 ≤ bytesMost) then
        (bif decide (((List.take (n18.toNat - Int.toNat (0 : Int)) (List.drop (Int.toNat (0 : Int)) l21)).length + 1) * 24 ≤ bytesMost) then
          (bif decide ((0 : Int) ≤ n18 ∧ n18 ≤ (↑l21.length : Int) ∧ (↑l21.length : Int) ≤ (↑l21.length : Int) ∧ (↑l21.length : Int) ≤ (↑l21.length : Int)) then
            (bif decide (((List.take (n18.toNat - Int.toNat (0 : Int)) (List.drop (Int.toNat (0 : Int)) l21) ++ [x27]).length + (List.take ((↑l21.length : Int).toNat - n18.toNat) (List.drop n18.toNat l21)).length) * 24 ≤ bytesMost) then
              (bif decide ((0 : Int) ≤ (↑(List.take (n18.toNat - Int.toNat (0 : Int)) (List.drop (Int.toNat (0 : Int)) l21) ++ [x27] ++ List.take ((↑l21.length : Int).toNat - n18.toNat) (List.drop n18.toNat l21)).length : Int) ∧ (↑(List.take (n18.toNat - Int.toNat (0 : Int)) (List.drop (Int.toNat (0 : Int)) l21) ++ [x27] ++ List.take ((↑l21.length : Int).toNat - n18.toNat) (List.drop n18.toNat l21)).length : Int) ≤ (↑(List.take (n18.toNat - Int.toNat (0 : Int)) (List.drop (Int.toNat (0 : Int)) l21) ++ [x27] ++ List.take ((↑l21.length : Int).toNat - n18.toNat) (List.drop n18.toNat l21)).length : Int) ∧ (↑(List.take (n18.toNat - Int.toNat (0 : Int)) (List.drop (Int.toNat (0 : Int)) l21) ++ [x27] ++ List.take ((↑l21.length : Int).toNat - n18.toNat) (List.drop n18.toNat l21)).length : Int) * (↑1 : Int) ≤ (↑bytesMost : Int) ∧ (↑(List.take (n18.toNat - Int.toNat (0 : Int)) (List.drop (Int.toNat (0 : Int)) l21) ++ [x27] ++ List.take ((↑l21.length : Int).toNat - n18.toNat) (List.drop n18.toNat l21)).length : Int) ≤ (↑bytesMost : Int) ∧ 1 = (Ks.cons K.bool Ks.nil).len ∧ (0 : Nat) < 1) then
                kk (V.agg [V.int IntKind.i64 (1 : Int), V.sl (Ks.cons (K.int IntKind.i64) (Ks.cons (K.int IntKind.i64) (Ks.cons (K.int IntKind.i64) Ks.nil))) (List.take (n18.toNat - Int.toNat (0 : Int)) (List.drop (Int.toNat (0 : Int)) l21) ++ [x27] ++ List.take ((↑l21.length : Int).toNat - n18.toNat) (List.drop n18.toNat l21)), V.own 1, V.int IntKind.i64 n22, V.int IntKind.i64 n23, V.int IntKind.i64 n24, V.int IntKind.i64 n25, V.nilsl, V.str s26]) ([Ob.arr rB l19 false, Ob.arr (Ks.cons K.bool Ks.nil) (List.replicate (↑(List.take (n18.toNat - Int.toNat (0 : Int)) (List.drop (Int.toNat (0 : Int)) l21) ++ [x27] ++ List.take ((↑l21.length : Int).toNat - n18.toNat) (List.drop n18.toNat l21)).length : Int).toNat false) false])
              else none)
            else none)
          else none)
        else none)
      else none)
    else none)) := by kernel_rfl

end Vm.S07

open Go Go.Proofs
namespace Vm.S07
abbrev rU8 : Ks := .cons (.int .u8) .nil
/-- the maker: its bytes and its place -/
abbrev mkOb (l : List Int) (n : Nat) : Ob := .var [.sl rU8 l, .int .i64 n]
theorem f25_run {R : Type} (kk : V → List Ob → Option R) (l : List Int) (n : Nat) (h : bytesOk l = true) :
    vrun (E25 8) f25cuts 1 100000 (vend (E25 8) 1 (fb Tryd.f25).1.results.toList false kk) 1 [.code (fb Tryd.f25).2] (start [.ref 0 0 0 0] [mkOb l n]) = kk (.int .i64 (mkB l n)) [mkOb l (mkN l n)] := by
  have hr := mkB_range h n
  simp only [bytesOk, Bool.and_eq_true, decide_eq_true_eq] at h
  rw [vrun_succ]
  refine (f25_go _ kk l n).trans ?_
  by_cases hn : n < l.length
  · have e : mkB l n = l[n] := by unfold mkB; rw [List.getElem?_eq_getElem hn]; rfl
    rw [bif_neg (by exact decide_eq_false (by omega)), w64 (n := (n : Int) + 1) (by omega) (by omega), w64 (n := (n : Int) + 1 - 1) (by omega) (by omega), Int.add_sub_cancel, idx_nat, List.getElem?_eq_getElem hn]
    dsimp only
    rw [e] at hr ⊢
    rw [w64 (n := l[n]) (by omega) (by omega), mkN, if_pos hn]
    rfl
  · have e : mkB l n = 0 := by unfold mkB; rw [List.getElem?_eq_none (by omega)]; rfl
    rw [bif_pos (by exact decide_eq_true (by omega)), e, mkN, if_neg hn]
/-- reads the maker -/
def rdMk : List V → List Ob → Option (List Int × Int)
  | [.ref 0 0 0 0], [.var [a, b]] => match slX rU8 a, intX b with
    | some l, some n => some (l, n)
    | _, _ => none
  | _, _ => none
theorem rdMk_eq {args : List V} {os : List Ob} {l : List Int} {n : Int} (h : rdMk args os = some (l, n)) : args = [.ref 0 0 0 0] ∧ os = [.var [.sl rU8 l, .int .i64 n]] := by
  unfold rdMk at h
  split at h
  · split at h
    · rename_i h1 h2
      cases h
      rw [slX_eq h1, intX_eq h2]
      exact ⟨rfl, rfl⟩
    · cases h
  · cases h
noncomputable def f25e : Entry Tryd.prog gls where
  f := 25
  g := fun args os => match rdMk args os with
    | some (l, n) => some (bytesOk l && decide (0 ≤ n), .int .i64 (mkB l n.toNat), [mkOb l (mkN l n.toNat)])
    | none => none
  says := fun args os c v os' h hc => by
    subst hc
    split at h
    · rename_i l n hm
      obtain ⟨rfl, rfl⟩ := rdMk_eq hm
      simp only [Option.some.injEq, Prod.mk.injEq] at h
      obtain ⟨h1, rfl, rfl⟩ := h
      rw [Bool.and_eq_true, decide_eq_true_eq] at h1
      obtain ⟨k, rfl⟩ : ∃ k : Nat, n = (k : Int) := ⟨n.toNat, by omega⟩
      have hn := f25_run (fun v os => some (v, os)) l k h1.1
      have := contract_of (P := Tryd.prog) (E := E25 8) (args := [.ref 0 0 0 0]) (os := [mkOb l k]) mixed (ready25 8) (f := 25) (fn := (fb Tryd.f25).1) (c := (fb Tryd.f25).2) Tryd.func25 (by kernel_rfl) (by kernel_rfl) (by decide) (by rw [glE25]; exact rfOk_no (by kernel_rfl)) hn (Nat.le_refl 1)
      rw [glE25] at this
      exact this
    · cases h
abbrev evV (k : Int) (x y : V) (v : Vl) (w : List UInt8) : V := .agg [.int .i64 k, x, y, .int .i64 v.1, .int .i64 v.2.1, .int .i64 v.2.2.1, .int .i64 v.2.2.2, .nilsl, .str w]
theorem f55a_run {R : Type} (kk : V → List Ob → Option R) (k : Int) (v : Vl) (w : List UInt8) (p : Pt) :
    vrun (E25 8) f55acuts 0 100000 (vend (E25 8) 0 (fb Tryd.f55).1.results.toList true kk) 3 [.code (fb Tryd.f55).2] (start [evV k .nilsl .nilsl v w, enc true rPitch p] []) = kk (evV 1 (.sl rPitch [p]) (.own 0) v w) [.arr rB [false] false] := by
  rw [vrun_succ]
  refine (f55a_go _ kk k v.1 v.2.1 v.2.2.1 v.2.2.2 w p).trans ?_
  rw [vrun_succ, f55a_0, bif_neg (by decide), vrun_succ, f55a_1, bif_neg (by decide), bif_pos (by decide), bif_pos (by decide)]
  rfl
theorem f55b_fin {R : Type} (kk : V → List Ob → Option R) (N : Nat) (k : Int) (v : Vl) (w : List UInt8) (ps : List Pt) (ts : List Bool) (p : Pt) (hb : ps.length ≤ 1000) (n11 n12 n13 n14 n15 : Int) (s : List UInt8) (j : Nat) (hj : j = posW p ps) :
    vrun (E25 8) f55bcuts 1 100000 (vend (E25 8) 1 (fb Tryd.f55).1.results.toList true kk) (N + 1) f55bt4 (f55bs1 j ts k ps v.1 v.2.1 v.2.2.1 v.2.2.2 w p n11 n12 n13 n14 n15 s) =
      bif hasW p ps then kk (evV k (.sl rPitch ps) (.own 0) v w) [.arr rB ts false] else kk (evV 1 (.sl rPitch (insW p ps)) (.own 1) v w) [.arr rB ts false, .arr rB (List.replicate (ps.length + 1) false) false] := by
  subst hj
  have hle := posW_le p ps
  have e1 : List.take (((posW p ps : Nat) : Int).toNat - Int.toNat 0) (List.drop (Int.toNat 0) ps) = ps.take (posW p ps) := rfl
  have e2 : List.take (((ps.length : Nat) : Int).toNat - ((posW p ps : Nat) : Int).toNat) (List.drop ((posW p ps : Nat) : Int).toNat ps) = ps.drop (posW p ps) := take_drop_len ps (posW p ps)
  have e3 : (insW p ps).length = ps.length + 1 := by simp only [insW, List.length_append, List.length_take, List.length_drop, List.length_cons, List.length_nil]; omega
  have l1 : (ps.take (posW p ps)).length ≤ 1000 := by rw [List.length_take]; omega
  have l2 : (ps.drop (posW p ps)).length ≤ 1000 := by rw [List.length_drop]; omega
  rw [vrun_succ, f55b_1]
  have g1 : decide ((0 : Int) ≤ (0 : Int) ∧ (0 : Int) ≤ ((posW p ps : Nat) : Int) ∧ ((posW p ps : Nat) : Int) ≤ (ps.length : Int) ∧ (ps.length : Int) ≤ (ps.length : Int)) = true := decide_eq_true (by omega)
  have g2 : decide ((ps.take (posW p ps)).length * 24 ≤ bytesMost) = true := decide_eq_true (by simp only [bytesMost]; omega)
  have g3 : decide (((ps.take (posW p ps)).length + 1) * 24 ≤ bytesMost) = true := decide_eq_true (by simp only [bytesMost]; omega)
  have g4 : decide ((0 : Int) ≤ ((posW p ps : Nat) : Int) ∧ ((posW p ps : Nat) : Int) ≤ (ps.length : Int) ∧ (ps.length : Int) ≤ (ps.length : Int) ∧ (ps.length : Int) ≤ (ps.length : Int)) = true := decide_eq_true (by omega)
  have g5 : decide (((ps.take (posW p ps) ++ [p]).length + (ps.drop (posW p ps)).length) * 24 ≤ bytesMost) = true := decide_eq_true (by simp only [bytesMost, List.length_append, List.length_cons, List.length_nil]; omega)
  have e4 : ps.take (posW p ps) ++ [p] ++ ps.drop (posW p ps) = insW p ps := rfl
  rw [e1, e2]
  by_cases hlt : posW p ps < ps.length
  · have hh : hasW p ps = beqP ps[posW p ps] p := by simp only [hasW, List.getElem?_eq_getElem hlt]
    rw [bif_pos (by exact decide_eq_true (by omega)), idx_nat, List.getElem?_eq_getElem hlt, hh]
    dsimp only
    rw [g1, g2, g3, g4, g5, e4]
    show (bif beqP ps[posW p ps] p then _ else _) = _
    cases beqP ps[posW p ps] p with
    | true => rfl
    | false =>
      rw [cond_false, cond_false, cond_true, cond_true, cond_true, cond_true, cond_true, bif_pos (by exact decide_eq_true (by rw [e3]; refine ⟨by omega, by omega, ?_, ?_, rfl, by omega⟩ <;> (simp only [bytesMost]; omega))), show ((((insW p ps).length : Nat) : Int).toNat) = ps.length + 1 from e3]
  · have hh : hasW p ps = false := by simp only [hasW, List.getElem?_eq_none (Nat.le_of_not_lt hlt)]
    rw [bif_neg (by exact decide_eq_false (by omega)), hh, g1, g2, g3, g4, g5, e4]
    rw [cond_false, cond_true, cond_true, cond_true, cond_true, cond_true, bif_pos (by exact decide_eq_true (by rw [e3]; refine ⟨by omega, by omega, ?_, ?_, rfl, by omega⟩ <;> (simp only [bytesMost]; omega))), show ((((insW p ps).length : Nat) : Int).toNat) = ps.length + 1 from e3]
theorem f55b_loop {R : Type} (kk : V → List Ob → Option R) (k : Int) (v : Vl) (w : List UInt8) (ps : List Pt) (ts : List Bool) (p : Pt) (hb : ps.length ≤ 1000) (n11 n12 n13 n14 n15 : Int) (s : List UInt8) : ∀ (d j : Nat), j + d = ps.length → j + posW p (ps.drop j) = posW p ps →
    vrun (E25 8) f55bcuts 1 100000 (vend (E25 8) 1 (fb Tryd.f55).1.results.toList true kk) (d + 1 + 1) f55bt2 (f55bs0 j ts k ps v.1 v.2.1 v.2.2.1 v.2.2.2 w p n11 n12 n13 n14 n15 s) =
      bif hasW p ps then kk (evV k (.sl rPitch ps) (.own 0) v w) [.arr rB ts false] else kk (evV 1 (.sl rPitch (insW p ps)) (.own 1) v w) [.arr rB ts false, .arr rB (List.replicate (ps.length + 1) false) false] := by
  intro d
  induction d with
  | zero =>
    intro j hj hp
    rw [List.drop_eq_nil_of_le (by omega)] at hp
    rw [vrun_succ, f55b_0, bif_neg (by exact decide_eq_false (by omega))]
    exact f55b_fin kk 0 k v w ps ts p hb n11 n12 n13 n14 n15 s j hp
  | succ d ih =>
    intro j hj hp
    have hlt : j < ps.length := by omega
    rw [List.drop_eq_getElem_cons hlt, posW] at hp
    rw [vrun_succ, f55b_0, bif_pos (by exact decide_eq_true (by omega)), idx_nat, List.getElem?_eq_getElem hlt, wrap_succ (by omega)]
    dsimp only
    by_cases hc : Pt.cmp ps[j] p < 0
    · rw [if_pos hc] at hp
      rw [bif_pos (decide_eq_true hc)]
      exact ih (j + 1) (by omega) (by omega)
    · rw [if_neg hc] at hp
      rw [bif_neg (decide_eq_false hc)]
      exact f55b_fin kk (d + 1) k v w ps ts p hb n11 n12 n13 n14 n15 s j hp
theorem f55b_run {R : Type} (kk : V → List Ob → Option R) (k : Int) (v : Vl) (w : List UInt8) (ps : List Pt) (ts : List Bool) (p : Pt) (hb : ps.length ≤ 1000) :
    vrun (E25 8) f55bcuts 1 100000 (vend (E25 8) 1 (fb Tryd.f55).1.results.toList true kk) (ps.length + 1 + 1 + 1) [.code (fb Tryd.f55).2] (start [evV k (.sl rPitch ps) (.own 0) v w, enc true rPitch p] [.arr rB ts false]) =
      bif hasW p ps then kk (evV k (.sl rPitch ps) (.own 0) v w) [.arr rB ts false] else kk (evV 1 (.sl rPitch (insW p ps)) (.own 1) v w) [.arr rB ts false, .arr rB (List.replicate (ps.length + 1) false) false] := by
  rw [vrun_succ]
  refine (f55b_go _ kk k v.1 v.2.1 v.2.2.1 v.2.2.2 w ps ts p).trans ?_
  exact f55b_loop kk k v w ps ts p hb 0 0 0 0 0 [] ps.length 0 (by omega) (by rw [List.drop_zero]; omega)
/-- reads an event whose slices are still made, and a pitch -/
def rdEv : V → Option (Int × V × V × Vl × List UInt8)
  | .agg [k, x, y, a, b, c, d, .nilsl, .str w] => match intX k, intX a, intX b, intX c, intX d with
    | some k, some a, some b, some c, some d => some (k, x, y, (a, b, c, d), w)
    | _, _, _, _, _ => none
  | _ => none
theorem rdEv_eq {u : V} {k : Int} {x y : V} {v : Vl} {w : List UInt8} (h : rdEv u = some (k, x, y, v, w)) : u = evV k x y v w := by
  unfold rdEv at h
  split at h
  · split at h
    · rename_i h1 h2 h3 h4 h5
      cases h
      rw [intX_eq h1, intX_eq h2, intX_eq h3, intX_eq h4, intX_eq h5]
    · cases h
  · cases h
def rdPt : V → Option Pt
  | .agg [b, c, d] => match intX b, intX c, intX d with
    | some b, some c, some d => some (b, c, d)
    | _, _, _ => none
  | _ => none
theorem rdPt_eq {u : V} {p : Pt} (h : rdPt u = some p) : u = enc true rPitch p := by
  unfold rdPt at h
  split at h
  · split at h
    · rename_i h1 h2 h3
      cases h
      rw [intX_eq h1, intX_eq h2, intX_eq h3]
      rfl
    · cases h
  · cases h
/-- reads with's arguments: an event that has nothing yet -/
def rdWA : List V → List Ob → Option (Int × Vl × List UInt8 × Pt)
  | [e, p], [] => match rdEv e, rdPt p with
    | some (k, .nilsl, .nilsl, v, w), some p => some (k, v, w, p)
    | _, _ => none
  | _, _ => none
theorem rdWA_eq {args : List V} {os : List Ob} {k : Int} {v : Vl} {w : List UInt8} {p : Pt} (h : rdWA args os = some (k, v, w, p)) : args = [evV k .nilsl .nilsl v w, enc true rPitch p] ∧ os = [] := by
  unfold rdWA at h
  split at h
  · split at h
    · rename_i h1 h2
      cases h
      rw [rdEv_eq h1, rdPt_eq h2]
      exact ⟨rfl, rfl⟩
    · cases h
  · cases h
/-- reads with's arguments: an event that has some -/
def rdWB : List V → List Ob → Option (Int × Vl × List UInt8 × List Pt × List Bool × Pt)
  | [e, p], [o] => match rdEv e, rdPt p, arrX rB o with
    | some (k, x, .own 0, v, w), some p, some ts => match slX rPitch x with
      | some ps => some (k, v, w, ps, ts, p)
      | none => none
    | _, _, _ => none
  | _, _ => none
theorem rdWB_eq {args : List V} {os : List Ob} {k : Int} {v : Vl} {w : List UInt8} {ps : List Pt} {ts : List Bool} {p : Pt} (h : rdWB args os = some (k, v, w, ps, ts, p)) : args = [evV k (.sl rPitch ps) (.own 0) v w, enc true rPitch p] ∧ os = [.arr rB ts false] := by
  unfold rdWB at h
  split at h
  · split at h
    · rename_i h1 h2 h3
      split at h
      · rename_i h4
        cases h
        rw [rdEv_eq h1, rdPt_eq h2, arrX_eq h3, slX_eq h4]
        exact ⟨rfl, rfl⟩
      · cases h
    · cases h
  · cases h
noncomputable def f55e : Entry Tryd.prog gls where
  f := 55
  g := fun args os => match rdWA args os with
    | some (k, v, w, p) => some (true, evV 1 (.sl rPitch [p]) (.own 0) v w, [.arr rB [false] false])
    | none => none
  says := fun args os c v os' h hc => by
    subst hc
    split at h
    · rename_i k v w p hm
      obtain ⟨rfl, rfl⟩ := rdWA_eq hm
      simp only [Option.some.injEq, Prod.mk.injEq] at h
      obtain ⟨-, rfl, rfl⟩ := h
      have hn := f55a_run (fun v os => some (v, os)) k v w p
      have := contract_of (P := Tryd.prog) (E := E25 8) (args := [evV k .nilsl .nilsl v w, enc true rPitch p]) (os := []) mixed (ready25 8) (f := 55) (fn := (fb Tryd.f55).1) (c := (fb Tryd.f55).2) Tryd.func55 (by kernel_rfl) (by kernel_rfl) (by decide) (by rw [glE25]; exact rfOk_no (by kernel_rfl)) hn (Nat.le_refl 0)
      rw [glE25] at this
      exact this
    · cases h
  br := fun args os => match rdWB args os with
    | some (k, v, w, ps, ts, p) => some (decide (ps.length ≤ 1000), hasW p ps, (evV k (.sl rPitch ps) (.own 0) v w, [.arr rB ts false]), (evV 1 (.sl rPitch (insW p ps)) (.own 1) v w, [.arr rB ts false, .arr rB (List.replicate (ps.length + 1) false) false]))
    | none => none
  brSays := fun args os c b q q' h hc => by
    subst hc
    split at h
    · rename_i k v w ps ts p hm
      obtain ⟨rfl, rfl⟩ := rdWB_eq hm
      simp only [Option.some.injEq, Prod.mk.injEq] at h
      obtain ⟨h1, rfl, rfl, rfl⟩ := h
      have hn := f55b_run (fun v os => some (v, os)) k v w ps ts p (of_decide_eq_true h1)
      have hn' : vrun (E25 8) f55bcuts 1 100000 (vend (E25 8) 1 (fb Tryd.f55).1.results.toList true fun v os => some (v, os)) (ps.length + 1 + 1 + 1) [.code (fb Tryd.f55).2] (start [evV k (.sl rPitch ps) (.own 0) v w, enc true rPitch p] [Ob.arr rB ts false]) = some ((bif hasW p ps then (evV k (.sl rPitch ps) (.own 0) v w, [Ob.arr rB ts false]) else (evV 1 (.sl rPitch (insW p ps)) (.own 1) v w, [Ob.arr rB ts false, Ob.arr rB (List.replicate (ps.length + 1) false) false])).1, (bif hasW p ps then (evV k (.sl rPitch ps) (.own 0) v w, [Ob.arr rB ts false]) else (evV 1 (.sl rPitch (insW p ps)) (.own 1) v w, [Ob.arr rB ts false, Ob.arr rB (List.replicate (ps.length + 1) false) false])).2) := by
        rw [hn]
        cases hasW p ps <;> rfl
      have := contract_of (P := Tryd.prog) (E := E25 8) (args := [evV k (.sl rPitch ps) (.own 0) v w, enc true rPitch p]) (os := [.arr rB ts false]) mixed (ready25 8) (f := 55) (fn := (fb Tryd.f55).1) (c := (fb Tryd.f55).2) Tryd.func55 (by kernel_rfl) (by kernel_rfl) (by decide) (by rw [glE25]; exact rfOk_no (by kernel_rfl)) hn' (Nat.le_refl 1)
      rw [glE25] at this
      exact this
    · cases h
noncomputable def es26 : List (Entry Tryd.prog gls) := [f25e, f55e] ++ es25
noncomputable def E26 (n : Nat) : Env := interp fns (look tys) gls mvs (tabOf es26) 100000 n
theorem ready26 (n : Nat) : Ready Tryd.prog (E26 n) := ready_of mixed fnsAll tysOk rfsOk n
theorem glE26 (n : Nat) : (E26 n).gl = gls := by cases n <;> rfl
end Vm.S07

open Go Go.Proofs
namespace Vm.S07
noncomputable abbrev f54cuts : Cuts := fun _ => none
theorem f54_go {R : Type} (J : List Item → St → Option R) (kk : V → List Ob → Option R) (l : List Int) (n : Int) :
  vseg ((E26 8)) f54cuts 1 J (vend ((E26 8)) 1 (fb Tryd.f54).1.results.toList false kk) 100000 true [.code (fb Tryd.f54).2] (start ([V.ref (0 : Nat) (0 : Nat) (0 : Nat) (0 : Nat)]) ([Ob.var [V.sl (Ks.cons (K.int IntKind.u8) Ks.nil) l, V.int IntKind.i64 n]])) =
  (bif bytesOk l && decide ((0 : Int) ≤ n) then
    (bif bytesOk l && decide ((0 : Int) ≤ (↑(mkN l n.toNat) : Int)) then
      (bif bytesOk l && decide ((0 : Int) ≤ (↑(mkN l (↑(mkN l n.toNat) : Int).toNat) : Int)) then
        (bif decide ((mkB l (↑(mkN l (↑(mkN l n.toNat) : Int).toNat) : Int).toNat).tmod (6 : Int) = (0 : Int)) then
          kk (V.agg [V.int IntKind.i64 (IntKind.i64.wrap ((1 : Int) + (mkB l n.toNat).tmod (4 : Int))), V.int IntKind.i64 (IntKind.i64.wrap (((mkB l (↑(mkN l n.toNat) : Int).toNat).tmod (5 : Int)).tdiv (4 : Int))), V.int IntKind.i64 (3 : Int), V.int IntKind.i64 (2 : Int)]) ([Ob.var [V.sl rU8 l, V.int IntKind.i64 (↑(mkN l (↑(mkN l (↑(mkN l n.toNat) : Int).toNat) : Int).toNat) : Int)]])
        else kk (V.agg [V.int IntKind.i64 (IntKind.i64.wrap ((1 : Int) + (mkB l n.toNat).tmod (4 : Int))), V.int IntKind.i64 (IntKind.i64.wrap (((mkB l (↑(mkN l n.toNat) : Int).toNat).tmod (5 : Int)).tdiv (4 : Int))), V.int IntKind.i64 (0 : Int), V.int IntKind.i64 (0 : Int)]) ([Ob.var [V.sl rU8 l, V.int IntKind.i64 (↑(mkN l (↑(mkN l (↑(mkN l n.toNat) : Int).toNat) : Int).toNat) : Int)]]))
      else none)
    else none)
  else none) := by kernel_rfl

end Vm.S07

open Go Go.Proofs
namespace Vm.S07
theorem f54_run {R : Type} (kk : V → List Ob → Option R) (l : List Int) (n : Nat) (h : bytesOk l = true) :
    vrun (E26 8) f54cuts 1 100000 (vend (E26 8) 1 (fb Tryd.f54).1.results.toList false kk) 1 [.code (fb Tryd.f54).2] (start [.ref 0 0 0 0] [mkOb l n]) = kk (enc true rVal (mkV l n)) [mkOb l (mkVN l n)] := by
  have r0 := mkB_range h n
  have r1 := mkB_range h (mkN l n)
  have r2 := mkB_range h (mkN l (mkN l n))
  have z : ∀ m : Nat, decide ((0 : Int) ≤ (m : Int)) = true := fun m => decide_eq_true (by omega)
  have w1 : IntKind.i64.wrap ((1 : Int) + (mkB l n).tmod 4) = 1 + (mkB l n).tmod 4 := by
    have := Int.tmod_nonneg 4 r0.1
    have := Int.tmod_lt_of_pos (mkB l n) (b := 4) (by omega)
    exact w64 (by omega) (by omega)
  have w2 : IntKind.i64.wrap (((mkB l (mkN l n)).tmod 5).tdiv 4) = ((mkB l (mkN l n)).tmod 5).tdiv 4 := by
    have h1 := Int.tmod_nonneg 5 r1.1
    have h2 := Int.tmod_lt_of_pos (mkB l (mkN l n)) (b := 5) (by omega)
    rw [Int.tdiv_eq_ediv_of_nonneg h1]
    exact w64 (by omega) (by omega)
  rw [vrun_succ]
  refine (f54_go _ kk l n).trans ?_
  simp only [Int.toNat_natCast, h, z, Bool.and_self, cond_true]
  rw [w1, w2]
  by_cases hc : (mkB l (mkN l (mkN l n))).tmod 6 = 0
  · rw [bif_pos (decide_eq_true hc)]
    simp only [mkV, if_pos hc]
    rfl
  · rw [bif_neg (decide_eq_false hc)]
    simp only [mkV, if_neg hc]
    rfl
noncomputable def f54e : Entry Tryd.prog gls where
  f := 54
  g := fun args os => match rdMk args os with
    | some (l, n) => some (bytesOk l && decide (0 ≤ n), enc true rVal (mkV l n.toNat), [mkOb l (mkVN l n.toNat)])
    | none => none
  says := fun args os c v os' h hc => by
    subst hc
    split at h
    · rename_i l n hm
      obtain ⟨rfl, rfl⟩ := rdMk_eq hm
      simp only [Option.some.injEq, Prod.mk.injEq] at h
      obtain ⟨h1, rfl, rfl⟩ := h
      rw [Bool.and_eq_true, decide_eq_true_eq] at h1
      obtain ⟨k, rfl⟩ : ∃ k : Nat, n = (k : Int) := ⟨n.toNat, by omega⟩
      have hn := f54_run (fun v os => some (v, os)) l k h1.1
      have := contract_of (P := Tryd.prog) (E := E26 8) (args := [.ref 0 0 0 0]) (os := [mkOb l k]) mixed (ready26 8) (f := 54) (fn := (fb Tryd.f54).1) (c := (fb Tryd.f54).2) Tryd.func54 (by kernel_rfl) (by kernel_rfl) (by decide) (by rw [glE26]; exact rfOk_no (by kernel_rfl)) hn (Nat.le_refl 1)
      rw [glE26] at this
      exact this
    · cases h
noncomputable def es27 : List (Entry Tryd.prog gls) := [f54e] ++ es26
noncomputable def E27 (n : Nat) : Env := interp fns (look tys) gls mvs (tabOf es27) 100000 n
theorem ready27 (n : Nat) : Ready Tryd.prog (E27 n) := ready_of mixed fnsAll tysOk rfsOk n
theorem glE27 (n : Nat) : (E27 n).gl = gls := by cases n <;> rfl
end Vm.S07

open Go Go.Proofs
namespace Vm.S07
noncomputable abbrev f26cuts : Cuts := look [(3, [0, 3, 4, 5, 6]), (7, [0, 4, 5]), (12, [0, 4, 5, 7]), (13, [0, 4, 5, 7, 8]), (16, [0, 4, 5]), (18, [0, 4, 5]), (19, [0, 4, 5, 9])]
noncomputable abbrev f26t19 : List Item := itemsAt (fb Tryd.f26).2 19
noncomputable abbrev f26t18 : List Item := itemsAt (fb Tryd.f26).2 18
noncomputable abbrev f26t16 : List Item := itemsAt (fb Tryd.f26).2 16
noncomputable abbrev f26t13 : List Item := itemsAt (fb Tryd.f26).2 13
noncomputable abbrev f26t12 : List Item := itemsAt (fb Tryd.f26).2 12
noncomputable abbrev f26t7 : List Item := itemsAt (fb Tryd.f26).2 7
noncomputable abbrev f26t3 : List Item := itemsAt (fb Tryd.f26).2 3
def f26s0 (n1 : Int) (x2 : List Int × Int) (x3 : Int × List (Int × Int × Int) × List Bool × Int × Int × Int × Int × List Int × List UInt8) (n4 : Int) (n5 : Int) (n6 : Int) (n7 : Int) (n8 : Int) (s9 : List UInt8) (n10 : Int) (n11 : Int) (n12 : Int) (n13 : Int) (n14 : Int) (s15 : List UInt8) : St := { fr := [(0, V.ref 0 0 0 0), (3, V.ref 1 0 0 0), (4, V.ref 2 0 0 0), (5, V.ref 3 0 0 0), (6, V.int IntKind.i64 n1)], hp := [(0, Ob.var [V.sl rU8 x2.fst, V.int IntKind.i64 x2.snd]), (1, Ob.var [V.int IntKind.i64 x3.fst, V.sl rPitch x3.snd.fst, V.sl rB x3.snd.snd.fst, V.int IntKind.i64 x3.snd.snd.snd.fst, V.int IntKind.i64 x3.snd.snd.snd.snd.fst, V.int IntKind.i64 x3.snd.snd.snd.snd.snd.fst, V.int IntKind.i64 x3.snd.snd.snd.snd.snd.snd.fst, V.sl rI x3.snd.snd.snd.snd.snd.snd.snd.fst, V.str x3.snd.snd.snd.snd.snd.snd.snd.snd]), (2, Ob.var [V.int IntKind.i64 n4, V.nilsl, V.nilsl, V.int IntKind.i64 n5, V.int IntKind.i64 n6, V.int IntKind.i64 n7, V.int IntKind.i64 n8, V.nilsl, V.str s9]), (3, Ob.var [V.int IntKind.i64 n10, V.nilsl, V.nilsl, V.int IntKind.i64 n11, V.int IntKind.i64 n12, V.int IntKind.i64 n13, V.int IntKind.i64 n14, V.nilsl, V.str s15])], nx := 4 }
def f26s1 (n18 : Int) (x19 : List Int × Int) (x20 : Int × List (Int × Int × Int) × List Bool × Int × Int × Int × Int × List Int × List UInt8) (n21 : Int) (n22 : Int) (n23 : Int) (n24 : Int) (n25 : Int) (s26 : List UInt8) (n27 : Int) (l28 : List (Int × Int × Int)) (n29 : Int) (n30 : Int) (n31 : Int) (n32 : Int) (s33 : List UInt8) (l34 : List Bool) : St := { fr := [(0, V.ref 0 0 0 0), (3, V.ref 1 0 0 0), (4, V.ref 2 0 0 0), (5, V.ref 3 0 0 0), (6, V.int IntKind.i64 n18)], hp := [(0, Ob.var [V.sl rU8 x19.fst, V.int IntKind.i64 x19.snd]), (1, Ob.var [V.int IntKind.i64 x20.fst, V.sl rPitch x20.snd.fst, V.sl rB x20.snd.snd.fst, V.int IntKind.i64 x20.snd.snd.snd.fst, V.int IntKind.i64 x20.snd.snd.snd.snd.fst, V.int IntKind.i64 x20.snd.snd.snd.snd.snd.fst, V.int IntKind.i64 x20.snd.snd.snd.snd.snd.snd.fst, V.sl rI x20.snd.snd.snd.snd.snd.snd.snd.fst, V.str x20.snd.snd.snd.snd.snd.snd.snd.snd]), (2, Ob.var [V.int IntKind.i64 n21, V.nilsl, V.nilsl, V.int IntKind.i64 n22, V.int IntKind.i64 n23, V.int IntKind.i64 n24, V.int IntKind.i64 n25, V.nilsl, V.str s26]), (3, Ob.var [V.int IntKind.i64 n27, V.sl rPitch l28, V.own 4, V.int IntKind.i64 n29, V.int IntKind.i64 n30, V.int IntKind.i64 n31, V.int IntKind.i64 n32, V.nilsl, V.str s33]), (4, Ob.arr rB l34 false)], nx := 5 }
def f26s2 (x35 : List Int × Int) (n36 : Int) (n37 : Int) (n38 : Int) (n39 : Int) (n40 : Int) (s41 : List UInt8) (n42 : Int) (n43 : Int) (n44 : Int) (n45 : Int) (n46 : Int) (s47 : List UInt8) : St := { fr := [(0, V.ref 0 0 0 0), (4, V.ref 1 0 0 0), (5, V.ref 2 0 0 0)], hp := [(0, Ob.var [V.sl rU8 x35.fst, V.int IntKind.i64 x35.snd]), (1, Ob.var [V.int IntKind.i64 n36, V.nilsl, V.nilsl, V.int IntKind.i64 n37, V.int IntKind.i64 n38, V.int IntKind.i64 n39, V.int IntKind.i64 n40, V.nilsl, V.str s41]), (2, Ob.var [V.int IntKind.i64 n42, V.nilsl, V.nilsl, V.int IntKind.i64 n43, V.int IntKind.i64 n44, V.int IntKind.i64 n45, V.int IntKind.i64 n46, V.nilsl, V.str s47])], nx := 3 }
def f26s3 (x50 : List Int × Int) (n51 : Int) (n52 : Int) (n53 : Int) (n54 : Int) (n55 : Int) (s56 : List UInt8) (n57 : Int) (l58 : List (Int × Int × Int)) (n59 : Int) (n60 : Int) (n61 : Int) (n62 : Int) (s63 : List UInt8) (l64 : List Bool) : St := { fr := [(0, V.ref 0 0 0 0), (4, V.ref 1 0 0 0), (5, V.ref 2 0 0 0)], hp := [(0, Ob.var [V.sl rU8 x50.fst, V.int IntKind.i64 x50.snd]), (1, Ob.var [V.int IntKind.i64 n51, V.nilsl, V.nilsl, V.int IntKind.i64 n52, V.int IntKind.i64 n53, V.int IntKind.i64 n54, V.int IntKind.i64 n55, V.nilsl, V.str s56]), (2, Ob.var [V.int IntKind.i64 n57, V.sl rPitch l58, V.own 3, V.int IntKind.i64 n59, V.int IntKind.i64 n60, V.int IntKind.i64 n61, V.int IntKind.i64 n62, V.nilsl, V.str s63]), (3, Ob.arr rB l64 false)], nx := 4 }
def f26s4 (n65 : Int) (x66 : List Int × Int) (n67 : Int) (n68 : Int) (n69 : Int) (n70 : Int) (n71 : Int) (s72 : List UInt8) (n73 : Int) (n74 : Int) (n75 : Int) (n76 : Int) (n77 : Int) (s78 : List UInt8) : St := { fr := [(0, V.ref 0 0 0 0), (4, V.ref 1 0 0 0), (5, V.ref 2 0 0 0), (7, V.int IntKind.i64 n65)], hp := [(0, Ob.var [V.sl rU8 x66.fst, V.int IntKind.i64 x66.snd]), (1, Ob.var [V.int IntKind.i64 n67, V.nilsl, V.nilsl, V.int IntKind.i64 n68, V.int IntKind.i64 n69, V.int IntKind.i64 n70, V.int IntKind.i64 n71, V.nilsl, V.str s72]), (2, Ob.var [V.int IntKind.i64 n73, V.nilsl, V.nilsl, V.int IntKind.i64 n74, V.int IntKind.i64 n75, V.int IntKind.i64 n76, V.int IntKind.i64 n77, V.nilsl, V.str s78])], nx := 3 }
def f26s5 (n79 : Int) (x80 : List Int × Int) (n81 : Int) (n82 : Int) (n83 : Int) (n84 : Int) (n85 : Int) (s86 : List UInt8) (n87 : Int) (l88 : List (Int × Int × Int)) (n89 : Int) (n90 : Int) (n91 : Int) (n92 : Int) (s93 : List UInt8) (l94 : List Bool) : St := { fr := [(0, V.ref 0 0 0 0), (4, V.ref 1 0 0 0), (5, V.ref 2 0 0 0), (7, V.int IntKind.i64 n79)], hp := [(0, Ob.var [V.sl rU8 x80.fst, V.int IntKind.i64 x80.snd]), (1, Ob.var [V.int IntKind.i64 n81, V.nilsl, V.nilsl, V.int IntKind.i64 n82, V.int IntKind.i64 n83, V.int IntKind.i64 n84, V.int IntKind.i64 n85, V.nilsl, V.str s86]), (2, Ob.var [V.int IntKind.i64 n87, V.sl rPitch l88, V.own 3, V.int IntKind.i64 n89, V.int IntKind.i64 n90, V.int IntKind.i64 n91, V.int IntKind.i64 n92, V.nilsl, V.str s93]), (3, Ob.arr rB l94 false)], nx := 4 }
def f26s6 (n65 : Int) (n95 : Int) (x96 : List Int × Int) (n97 : Int) (n98 : Int) (n99 : Int) (n100 : Int) (n101 : Int) (s102 : List UInt8) (n103 : Int) (n104 : Int) (n105 : Int) (n106 : Int) (n107 : Int) (s108 : List UInt8) : St := { fr := [(0, V.ref 0 0 0 0), (4, V.ref 1 0 0 0), (5, V.ref 2 0 0 0), (7, V.int IntKind.i64 n65), (8, V.int IntKind.i64 n95)], hp := [(0, Ob.var [V.sl rU8 x96.fst, V.int IntKind.i64 x96.snd]), (1, Ob.var [V.int IntKind.i64 n97, V.nilsl, V.nilsl, V.int IntKind.i64 n98, V.int IntKind.i64 n99, V.int IntKind.i64 n100, V.int IntKind.i64 n101, V.nilsl, V.str s102]), (2, Ob.var [V.int IntKind.i64 n103, V.nilsl, V.nilsl, V.int IntKind.i64 n104, V.int IntKind.i64 n105, V.int IntKind.i64 n106, V.int IntKind.i64 n107, V.nilsl, V.str s108])], nx := 3 }
def f26s7 (n79 : Int) (n109 : Int) (x110 : List Int × Int) (n111 : Int) (n112 : Int) (n113 : Int) (n114 : Int) (n115 : Int) (s116 : List UInt8) (n117 : Int) (l118 : List (Int × Int × Int)) (n119 : Int) (n120 : Int) (n121 : Int) (n122 : Int) (s123 : List UInt8) (l124 : List Bool) : St := { fr := [(0, V.ref 0 0 0 0), (4, V.ref 1 0 0 0), (5, V.ref 2 0 0 0), (7, V.int IntKind.i64 n79), (8, V.int IntKind.i64 n109)], hp := [(0, Ob.var [V.sl rU8 x110.fst, V.int IntKind.i64 x110.snd]), (1, Ob.var [V.int IntKind.i64 n111, V.nilsl, V.nilsl, V.int IntKind.i64 n112, V.int IntKind.i64 n113, V.int IntKind.i64 n114, V.int IntKind.i64 n115, V.nilsl, V.str s116]), (2, Ob.var [V.int IntKind.i64 n117, V.sl rPitch l118, V.own 3, V.int IntKind.i64 n119, V.int IntKind.i64 n120, V.int IntKind.i64 n121, V.int IntKind.i64 n122, V.nilsl, V.str s123]), (3, Ob.arr rB l124 false)], nx := 4 }
def f26s8 (x125 : List Int × Int) (n126 : Int) (n127 : Int) (n128 : Int) (n129 : Int) (n130 : Int) (s131 : List UInt8) (n132 : Int) (n133 : Int) (n134 : Int) (n135 : Int) (n136 : Int) (s137 : List UInt8) : St := { fr := [(0, V.ref 0 0 0 0), (4, V.ref 1 0 0 0), (5, V.ref 2 0 0 0)], hp := [(0, Ob.var [V.sl rU8 x125.fst, V.int IntKind.i64 x125.snd]), (1, Ob.var [V.int IntKind.i64 n126, V.nilsl, V.nilsl, V.int IntKind.i64 n127, V.int IntKind.i64 n128, V.int IntKind.i64 n129, V.int IntKind.i64 n130, V.nilsl, V.str s131]), (2, Ob.var [V.int IntKind.i64 n132, V.nilsl, V.nilsl, V.int IntKind.i64 n133, V.int IntKind.i64 n134, V.int IntKind.i64 n135, V.int IntKind.i64 n136, V.nilsl, V.str s137])], nx := 3 }
def f26s9 (x138 : List Int × Int) (n139 : Int) (n140 : Int) (n141 : Int) (n142 : Int) (n143 : Int) (s144 : List UInt8) (n145 : Int) (l146 : List (Int × Int × Int)) (n147 : Int) (n148 : Int) (n149 : Int) (n150 : Int) (s151 : List UInt8) (l152 : List Bool) : St := { fr := [(0, V.ref 0 0 0 0), (4, V.ref 1 0 0 0), (5, V.ref 2 0 0 0)], hp := [(0, Ob.var [V.sl rU8 x138.fst, V.int IntKind.i64 x138.snd]), (1, Ob.var [V.int IntKind.i64 n139, V.nilsl, V.nilsl, V.int IntKind.i64 n140, V.int IntKind.i64 n141, V.int IntKind.i64 n142, V.int IntKind.i64 n143, V.nilsl, V.str s144]), (2, Ob.var [V.int IntKind.i64 n145, V.sl rPitch l146, V.own 3, V.int IntKind.i64 n147, V.int IntKind.i64 n148, V.int IntKind.i64 n149, V.int IntKind.i64 n150, V.nilsl, V.str s151]), (3, Ob.arr rB l152 false)], nx := 4 }
def f26s10 (x153 : List Int × Int) (n154 : Int) (n155 : Int) (n156 : Int) (n157 : Int) (n158 : Int) (s159 : List UInt8) (n160 : Int) (n161 : Int) (n162 : Int) (n163 : Int) (n164 : Int) (s165 : List UInt8) : St := { fr := [(0, V.ref 0 0 0 0), (4, V.ref 1 0 0 0), (5, V.ref 2 0 0 0)], hp := [(0, Ob.var [V.sl rU8 x153.fst, V.int IntKind.i64 x153.snd]), (1, Ob.var [V.int IntKind.i64 n154, V.nilsl, V.nilsl, V.int IntKind.i64 n155, V.int IntKind.i64 n156, V.int IntKind.i64 n157, V.int IntKind.i64 n158, V.nilsl, V.str s159]), (2, Ob.var [V.int IntKind.i64 n160, V.nilsl, V.nilsl, V.int IntKind.i64 n161, V.int IntKind.i64 n162, V.int IntKind.i64 n163, V.int IntKind.i64 n164, V.nilsl, V.str s165])], nx := 3 }
def f26s11 (x166 : List Int × Int) (n167 : Int) (n168 : Int) (n169 : Int) (n170 : Int) (n171 : Int) (s172 : List UInt8) (n173 : Int) (l174 : List (Int × Int × Int)) (n175 : Int) (n176 : Int) (n177 : Int) (n178 : Int) (s179 : List UInt8) (l180 : List Bool) (l181 : List Int) : St := { fr := [(0, V.ref 0 0 0 0), (4, V.ref 1 0 0 0), (5, V.ref 2 0 0 0)], hp := [(0, Ob.var [V.sl rU8 x166.fst, V.int IntKind.i64 x166.snd]), (1, Ob.var [V.int IntKind.i64 n167, V.nilsl, V.nilsl, V.int IntKind.i64 n168, V.int IntKind.i64 n169, V.int IntKind.i64 n170, V.int IntKind.i64 n171, V.nilsl, V.str s172]), (2, Ob.var [V.int IntKind.i64 n173, V.sl rPitch l174, V.own 3, V.int IntKind.i64 n175, V.int IntKind.i64 n176, V.int IntKind.i64 n177, V.int IntKind.i64 n178, V.own 4, V.str s179]), (3, Ob.arr rB l180 false), (4, Ob.arr (Ks.cons (K.int IntKind.i64) Ks.nil) l181 false)], nx := 5 }
def f26s12 (x182 : List Int × Int) (n183 : Int) (n184 : Int) (n185 : Int) (n186 : Int) (n187 : Int) (s188 : List UInt8) (n189 : Int) (l190 : List (Int × Int × Int)) (n191 : Int) (n192 : Int) (n193 : Int) (n194 : Int) (s195 : List UInt8) (l196 : List Bool) : St := { fr := [(0, V.ref 0 0 0 0), (4, V.ref 1 0 0 0), (5, V.ref 2 0 0 0)], hp := [(0, Ob.var [V.sl rU8 x182.fst, V.int IntKind.i64 x182.snd]), (1, Ob.var [V.int IntKind.i64 n183, V.nilsl, V.nilsl, V.int IntKind.i64 n184, V.int IntKind.i64 n185, V.int IntKind.i64 n186, V.int IntKind.i64 n187, V.nilsl, V.str s188]), (2, Ob.var [V.int IntKind.i64 n189, V.sl rPitch l190, V.own 3, V.int IntKind.i64 n191, V.int IntKind.i64 n192, V.int IntKind.i64 n193, V.int IntKind.i64 n194, V.nilsl, V.str s195]), (3, Ob.arr rB l196 false)], nx := 4 }
def f26s13 (n197 : Int) (x198 : List Int × Int) (n199 : Int) (n200 : Int) (n201 : Int) (n202 : Int) (n203 : Int) (s204 : List UInt8) (n205 : Int) (n206 : Int) (n207 : Int) (n208 : Int) (n209 : Int) (s210 : List UInt8) : St := { fr := [(0, V.ref 0 0 0 0), (4, V.ref 1 0 0 0), (5, V.ref 2 0 0 0), (9, V.int IntKind.i64 n197)], hp := [(0, Ob.var [V.sl rU8 x198.fst, V.int IntKind.i64 x198.snd]), (1, Ob.var [V.int IntKind.i64 n199, V.nilsl, V.nilsl, V.int IntKind.i64 n200, V.int IntKind.i64 n201, V.int IntKind.i64 n202, V.int IntKind.i64 n203, V.nilsl, V.str s204]), (2, Ob.var [V.int IntKind.i64 n205, V.nilsl, V.nilsl, V.int IntKind.i64 n206, V.int IntKind.i64 n207, V.int IntKind.i64 n208, V.int IntKind.i64 n209, V.nilsl, V.str s210])], nx := 3 }
def f26s14 (n211 : Int) (x212 : List Int × Int) (n213 : Int) (n214 : Int) (n215 : Int) (n216 : Int) (n217 : Int) (s218 : List UInt8) (n219 : Int) (l220 : List (Int × Int × Int)) (n221 : Int) (n222 : Int) (n223 : Int) (n224 : Int) (s225 : List UInt8) (l226 : List Bool) (l227 : List Int) : St := { fr := [(0, V.ref 0 0 0 0), (4, V.ref 1 0 0 0), (5, V.ref 2 0 0 0), (9, V.int IntKind.i64 n211)], hp := [(0, Ob.var [V.sl rU8 x212.fst, V.int IntKind.i64 x212.snd]), (1, Ob.var [V.int IntKind.i64 n213, V.nilsl, V.nilsl, V.int IntKind.i64 n214, V.int IntKind.i64 n215, V.int IntKind.i64 n216, V.int IntKind.i64 n217, V.nilsl, V.str s218]), (2, Ob.var [V.int IntKind.i64 n219, V.sl rPitch l220, V.own 3, V.int IntKind.i64 n221, V.int IntKind.i64 n222, V.int IntKind.i64 n223, V.int IntKind.i64 n224, V.own 4, V.str s225]), (3, Ob.arr rB l226 false), (4, Ob.arr (Ks.cons (K.int IntKind.i64) Ks.nil) l227 false)], nx := 5 }
def f26s15 (n228 : Int) (x229 : List Int × Int) (n230 : Int) (n231 : Int) (n232 : Int) (n233 : Int) (n234 : Int) (s235 : List UInt8) (n236 : Int) (l237 : List (Int × Int × Int)) (n238 : Int) (n239 : Int) (n240 : Int) (n241 : Int) (s242 : List UInt8) (l243 : List Bool) : St := { fr := [(0, V.ref 0 0 0 0), (4, V.ref 1 0 0 0), (5, V.ref 2 0 0 0), (9, V.int IntKind.i64 n228)], hp := [(0, Ob.var [V.sl rU8 x229.fst, V.int IntKind.i64 x229.snd]), (1, Ob.var [V.int IntKind.i64 n230, V.nilsl, V.nilsl, V.int IntKind.i64 n231, V.int IntKind.i64 n232, V.int IntKind.i64 n233, V.int IntKind.i64 n234, V.nilsl, V.str s235]), (2, Ob.var [V.int IntKind.i64 n236, V.sl rPitch l237, V.own 3, V.int IntKind.i64 n238, V.int IntKind.i64 n239, V.int IntKind.i64 n240, V.int IntKind.i64 n241, V.nilsl, V.str s242]), (3, Ob.arr rB l243 false)], nx := 4 }
theorem f26_go {R : Type} (J : List Item → St → Option R) (kk : V → List Ob → Option R) (l : List Int) (n : Int) (e : Int × List (Int × Int × Int) × List Bool × Int × Int × Int × Int × List Int × List UInt8) :
  vseg ((E27 8)) f26cuts 1 J (vend ((E27 8)) 1 (fb Tryd.f26).1.results.toList false kk) 100000 true [.code (fb Tryd.f26).2] (start ([V.ref (0 : Nat) (0 : Nat) (0 : Nat) (0 : Nat), enc true rEvent e]) ([Ob.var [V.sl (Ks.cons (K.int IntKind.u8) Ks.nil) l, V.int IntKind.i64 n]])) =
  (bif bytesOk l && decide ((0 : Int) ≤ n) then
    J f26t3 (f26s0 (0 : Int) ((l, (↑(mkVN l n.toNat) : Int))) (e) (0 : Int) (0 : Int) (0 : Int) (0 : Int) (0 : Int) ([]) (0 : Int) ((mkV l n.toNat).fst) ((mkV l n.toNat).snd.fst) ((mkV l n.toNat).snd.snd.fst) ((mkV l n.toNat).snd.snd.snd) ([]))
  else none) := by kernel_rfl
theorem f26_0 {R : Type} (J : List Item → St → Option R) (kk : V → List Ob → Option R) (n1 : Int) (x2 : List Int × Int) (x3 : Int × List (Int × Int × Int) × List Bool × Int × Int × Int × Int × List Int × List UInt8) (n4 : Int) (n5 : Int) (n6 : Int) (n7 : Int) (n8 : Int) (s9 : List UInt8) (n10 : Int) (n11 : Int) (n12 : Int) (n13 : Int) (n14 : Int) (s15 : List UInt8) :
  vseg ((E27 8)) f26cuts 1 J (vend ((E27 8)) 1 (fb Tryd.f26).1.results.toList false kk) 100000 true f26t3 (f26s0 n1 x2 x3 n4 n5 n6 n7 n8 s9 n10 n11 n12 n13 n14 s15) =
  (bif decide (n1 < (↑x3.snd.snd.fst.length : Int)) then
    (match idx x3.snd.snd.fst n1 with
      | some y16 => (bif y16 then
        (match idx x3.snd.fst n1 with
          | some y17 => J f26t3 (f26s1 (IntKind.i64.wrap (n1 + (1 : Int))) (x2) (x3) (n4) (n5) (n6) (n7) (n8) (s9) (1 : Int) ([y17]) (n11) (n12) (n13) (n14) (s15) ([false]))
          | none => none)
      else J f26t3 (f26s0 (IntKind.i64.wrap (n1 + (1 : Int))) (x2) (x3) (n4) (n5) (n6) (n7) (n8) (s9) (n10) (n11) (n12) (n13) (n14) (s15)))
      | none => none)
  else J f26t7 (f26s2 (x2) (n4) (n5) (n6) (n7) (n8) (s9) (n10) (n11) (n12) (n13) (n14) (s15))) := by kernel_rfl
theorem f26_1 {R : Type} (J : List Item → St → Option R) (kk : V → List Ob → Option R) (n18 : Int) (x19 : List Int × Int) (x20 : Int × List (Int × Int × Int) × List Bool × Int × Int × Int × Int × List Int × List UInt8) (n21 : Int) (n22 : Int) (n23 : Int) (n24 : Int) (n25 : Int) (s26 : List UInt8) (n27 : Int) (l28 : List (Int × Int × Int)) (n29 : Int) (n30 : Int) (n31 : Int) (n32 : Int) (s33 : List UInt8) (l34 : List Bool) :
  vseg ((E27 8)) f26cuts 1 J (vend ((E27 8)) 1 (fb Tryd.f26).1.results.toList false kk) 100000 true f26t3 (f26s1 n18 x19 x20 n21 n22 n23 n24 n25 s26 n27 l28 n29 n30 n31 n32 s33 l34) =
  (bif decide (n18 < (↑x20.snd.snd.fst.length : Int)) then
    (match idx x20.snd.snd.fst n18 with
      | some y48 => (bif y48 then
        (match idx x20.snd.fst n18 with
          | some y49 => (bif decide (l28.length ≤ (1000 : Nat)) then
            (bif hasW y49 l28 then
              J f26t3 (f26s1 (IntKind.i64.wrap (n18 + (1 : Int))) (x19) (x20) (n21) (n22) (n23) (n24) (n25) (s26) (n27) (l28) (n29) (n30) (n31) (n32) (s33) (l34))
            else J f26t3 (f26s1 (IntKind.i64.wrap (n18 + (1 : Int))) (x19) (x20) (n21) (n22) (n23) (n24) (n25) (s26) (1 : Int) (insW y49 l28) (n29) (n30) (n31) (n32) (s33) (List.replicate (l28.length + (1 : Nat)) false)))
          else none)
          | none => none)
      else J f26t3 (f26s1 (IntKind.i64.wrap (n18 + (1 : Int))) (x19) (x20) (n21) (n22) (n23) (n24) (n25) (s26) (n27) (l28) (n29) (n30) (n31) (n32) (s33) (l34)))
      | none => none)
  else J f26t7 (f26s3 (x19) (n21) (n22) (n23) (n24) (n25) (s26) (n27) (l28) (n29) (n30) (n31) (n32) (s33) (l34))) := by kernel_rfl
theorem f26_2 {R : Type} (J : List Item → St → Option R) (kk : V → List Ob → Option R) (x35 : List Int × Int) (n36 : Int) (n37 : Int) (n38 : Int) (n39 : Int) (n40 : Int) (s41 : List UInt8) (n42 : Int) (n43 : Int) (n44 : Int) (n45 : Int) (n46 : Int) (s47 : List UInt8) :
  vseg ((E27 8)) f26cuts 1 J (vend ((E27 8)) 1 (fb Tryd.f26).1.results.toList false kk) 100000 true f26t7 (f26s2 x35 n36 n37 n38 n39 n40 s41 n42 n43 n44 n45 n46 s47) =
  (bif bytesOk x35.fst && decide ((0 : Int) ≤ x35.snd) then
    J f26t12 (f26s4 ((mkB x35.fst x35.snd.toNat).tmod (4 : Int)) ((x35.fst, (↑(mkN x35.fst x35.snd.toNat) : Int))) (n36) (n37) (n38) (n39) (n40) (s41) (n42) (n43) (n44) (n45) (n46) (s47))
  else none) := by kernel_rfl
theorem f26_3 {R : Type} (J : List Item → St → Option R) (kk : V → List Ob → Option R) (x50 : List Int × Int) (n51 : Int) (n52 : Int) (n53 : Int) (n54 : Int) (n55 : Int) (s56 : List UInt8) (n57 : Int) (l58 : List (Int × Int × Int)) (n59 : Int) (n60 : Int) (n61 : Int) (n62 : Int) (s63 : List UInt8) (l64 : List Bool) :
  vseg ((E27 8)) f26cuts 1 J (vend ((E27 8)) 1 (fb Tryd.f26).1.results.toList false kk) 100000 true f26t7 (f26s3 x50 n51 n52 n53 n54 n55 s56 n57 l58 n59 n60 n61 n62 s63 l64) =
  (bif bytesOk x50.fst && decide ((0 : Int) ≤ x50.snd) then
    (bif decide ((0 : Int) < (↑l58.length : Int)) then
      (bif decide ((5 : Int) < (↑l58.length : Int)) then
        J f26t12 (f26s5 (0 : Int) ((x50.fst, (↑(mkN x50.fst x50.snd.toNat) : Int))) (n51) (n52) (n53) (n54) (n55) (s56) (n57) (l58) (n59) (n60) (n61) (n62) (s63) (l64))
      else J f26t12 (f26s5 (IntKind.i64.wrap (((mkB x50.fst x50.snd.toNat).tmod (4 : Int)).tdiv (2 : Int))) ((x50.fst, (↑(mkN x50.fst x50.snd.toNat) : Int))) (n51) (n52) (n53) (n54) (n55) (s56) (n57) (l58) (n59) (n60) (n61) (n62) (s63) (l64)))
    else (bif decide ((5 : Int) < (↑l58.length : Int)) then
        J f26t12 (f26s5 (0 : Int) ((x50.fst, (↑(mkN x50.fst x50.snd.toNat) : Int))) (n51) (n52) (n53) (n54) (n55) (s56) (n57) (l58) (n59) (n60) (n61) (n62) (s63) (l64))
      else J f26t12 (f26s5 ((mkB x50.fst x50.snd.toNat).tmod (4 : Int)) ((x50.fst, (↑(mkN x50.fst x50.snd.toNat) : Int))) (n51) (n52) (n53) (n54) (n55) (s56) (n57) (l58) (n59) (n60) (n61) (n62) (s63) (l64))))
  else none) := by kernel_rfl
theorem f26_4 {R : Type} (J : List Item → St → Option R) (kk : V → List Ob → Option R) (n65 : Int) (x66 : List Int × Int) (n67 : Int) (n68 : Int) (n69 : Int) (n70 : Int) (n71 : Int) (s72 : List UInt8) (n73 : Int) (n74 : Int) (n75 : Int) (n76 : Int) (n77 : Int) (s78 : List UInt8) :
  vseg ((E27 8)) f26cuts 1 J (vend ((E27 8)) 1 (fb Tryd.f26).1.results.toList false kk) 100000 true f26t12 (f26s4 n65 x66 n67 n68 n69 n70 n71 s72 n73 n74 n75 n76 n77 s78) =
  J f26t13 (f26s6 (n65) (0 : Int) (x66) (n67) (n68) (n69) (n70) (n71) (s72) (n73) (n74) (n75) (n76) (n77) (s78)) := by kernel_rfl
theorem f26_5 {R : Type} (J : List Item → St → Option R) (kk : V → List Ob → Option R) (n79 : Int) (x80 : List Int × Int) (n81 : Int) (n82 : Int) (n83 : Int) (n84 : Int) (n85 : Int) (s86 : List UInt8) (n87 : Int) (l88 : List (Int × Int × Int)) (n89 : Int) (n90 : Int) (n91 : Int) (n92 : Int) (s93 : List UInt8) (l94 : List Bool) :
  vseg ((E27 8)) f26cuts 1 J (vend ((E27 8)) 1 (fb Tryd.f26).1.results.toList false kk) 100000 true f26t12 (f26s5 n79 x80 n81 n82 n83 n84 n85 s86 n87 l88 n89 n90 n91 n92 s93 l94) =
  J f26t13 (f26s7 (n79) (0 : Int) (x80) (n81) (n82) (n83) (n84) (n85) (s86) (n87) (l88) (n89) (n90) (n91) (n92) (s93) (l94)) := by kernel_rfl
theorem f26_6 {R : Type} (J : List Item → St → Option R) (kk : V → List Ob → Option R) (n65 : Int) (n95 : Int) (x96 : List Int × Int) (n97 : Int) (n98 : Int) (n99 : Int) (n100 : Int) (n101 : Int) (s102 : List UInt8) (n103 : Int) (n104 : Int) (n105 : Int) (n106 : Int) (n107 : Int) (s108 : List UInt8) :
  vseg ((E27 8)) f26cuts 1 J (vend ((E27 8)) 1 (fb Tryd.f26).1.results.toList false kk) 100000 true f26t13 (f26s6 n65 n95 x96 n97 n98 n99 n100 n101 s102 n103 n104 n105 n106 n107 s108) =
  (bif decide (n95 < n65) then
    (bif bytesOk x96.fst && decide ((0 : Int) ≤ x96.snd) then
      (bif bytesOk x96.fst && decide ((0 : Int) ≤ (↑(mkN x96.fst x96.snd.toNat) : Int)) then
        J f26t13 (f26s7 (n65) (IntKind.i64.wrap (n95 + (1 : Int))) ((x96.fst, (↑(mkN x96.fst (↑(mkN x96.fst x96.snd.toNat) : Int).toNat) : Int))) (n97) (n98) (n99) (n100) (n101) (s102) (1 : Int) ([((mkB x96.fst x96.snd.toNat).tmod (7 : Int), Int.ofNat (0 : Nat), IntKind.i64.wrap ((4 : Int) + (mkB x96.fst (↑(mkN x96.fst x96.snd.toNat) : Int).toNat).tmod (2 : Int)))]) (n104) (n105) (n106) (n107) (s108) ([false]))
      else none)
    else none)
  else J f26t16 (f26s8 (x96) (n97) (n98) (n99) (n100) (n101) (s102) (n103) (n104) (n105) (n106) (n107) (s108))) := by kernel_rfl
theorem f26_7 {R : Type} (J : List Item → St → Option R) (kk : V → List Ob → Option R) (n79 : Int) (n109 : Int) (x110 : List Int × Int) (n111 : Int) (n112 : Int) (n113 : Int) (n114 : Int) (n115 : Int) (s116 : List UInt8) (n117 : Int) (l118 : List (Int × Int × Int)) (n119 : Int) (n120 : Int) (n121 : Int) (n122 : Int) (s123 : List UInt8) (l124 : List Bool) :
  vseg ((E27 8)) f26cuts 1 J (vend ((E27 8)) 1 (fb Tryd.f26).1.results.toList false kk) 100000 true f26t13 (f26s7 n79 n109 x110 n111 n112 n113 n114 n115 s116 n117 l118 n119 n120 n121 n122 s123 l124) =
  (bif decide (n109 < n79) then
    (bif bytesOk x110.fst && decide ((0 : Int) ≤ x110.snd) then
      (bif bytesOk x110.fst && decide ((0 : Int) ≤ (↑(mkN x110.fst x110.snd.toNat) : Int)) then
        (bif decide (l118.length ≤ (1000 : Nat)) then
          (bif hasW ((mkB x110.fst x110.snd.toNat).tmod (7 : Int), Int.ofNat (0 : Nat), IntKind.i64.wrap ((4 : Int) + (mkB x110.fst (↑(mkN x110.fst x110.snd.toNat) : Int).toNat).tmod (2 : Int))) l118 then
            J f26t13 (f26s7 (n79) (IntKind.i64.wrap (n109 + (1 : Int))) ((x110.fst, (↑(mkN x110.fst (↑(mkN x110.fst x110.snd.toNat) : Int).toNat) : Int))) (n111) (n112) (n113) (n114) (n115) (s116) (n117) (l118) (n119) (n120) (n121) (n122) (s123) (l124))
          else J f26t13 (f26s7 (n79) (IntKind.i64.wrap (n109 + (1 : Int))) ((x110.fst, (↑(mkN x110.fst (↑(mkN x110.fst x110.snd.toNat) : Int).toNat) : Int))) (n111) (n112) (n113) (n114) (n115) (s116) (1 : Int) (insW ((mkB x110.fst x110.snd.toNat).tmod (7 : Int), Int.ofNat (0 : Nat), IntKind.i64.wrap ((4 : Int) + (mkB x110.fst (↑(mkN x110.fst x110.snd.toNat) : Int).toNat).tmod (2 : Int))) l118) (n119) (n120) (n121) (n122) (s123) (List.replicate (l118.length + (1 : Nat)) false)))
        else none)
      else none)
    else none)
  else J f26t16 (f26s9 (x110) (n111) (n112) (n113) (n114) (n115) (s116) (n117) (l118) (n119) (n120) (n121) (n122) (s123) (l124))) := by kernel_rfl
theorem f26_8 {R : Type} (J : List Item → St → Option R) (kk : V → List Ob → Option R) (x125 : List Int × Int) (n126 : Int) (n127 : Int) (n128 : Int) (n129 : Int) (n130 : Int) (s131 : List UInt8) (n132 : Int) (n133 : Int) (n134 : Int) (n135 : Int) (n136 : Int) (s137 : List UInt8) :
  vseg ((E27 8)) f26cuts 1 J (vend ((E27 8)) 1 (fb Tryd.f26).1.results.toList false kk) 100000 true f26t16 (f26s8 x125 n126 n127 n128 n129 n130 s131 n132 n133 n134 n135 n136 s137) =
  J f26t18 (f26s10 (x125) (n126) (n127) (n128) (n129) (n130) (s131) (n132) (n133) (n134) (n135) (n136) (s137)) := by kernel_rfl
theorem f26_9 {R : Type} (J : List Item → St → Option R) (kk : V → List Ob → Option R) (x138 : List Int × Int) (n139 : Int) (n140 : Int) (n141 : Int) (n142 : Int) (n143 : Int) (s144 : List UInt8) (n145 : Int) (l146 : List (Int × Int × Int)) (n147 : Int) (n148 : Int) (n149 : Int) (n150 : Int) (s151 : List UInt8) (l152 : List Bool) :
  vseg ((E27 8)) f26cuts 1 J (vend ((E27 8)) 1 (fb Tryd.f26).1.results.toList false kk) 100000 true f26t16 (f26s9 x138 n139 n140 n141 n142 n143 s144 n145 l146 n147 n148 n149 n150 s151 l152) =
  (bif decide ((0 : Int) < (↑l146.length : Int)) then
    (bif bytesOk x138.fst && decide ((0 : Int) ≤ x138.snd) then
      (bif decide ((mkB x138.fst x138.snd.toNat).tmod (4 : Int) = (0 : Int)) then
        (bif bytesOk x138.fst && decide ((0 : Int) ≤ (↑(mkN x138.fst x138.snd.toNat) : Int)) then
          J f26t18 (f26s11 ((x138.fst, (↑(mkN x138.fst (↑(mkN x138.fst x138.snd.toNat) : Int).toNat) : Int))) (n139) (n140) (n141) (n142) (n143) (s144) (n145) (l146) (n147) (n148) (n149) (n150) (s151) (l152) ([IntKind.i64.wrap ((1 : Int) + (mkB x138.fst (↑(mkN x138.fst x138.snd.toNat) : Int).toNat).tmod (4 : Int))]))
        else none)
      else J f26t18 (f26s12 ((x138.fst, (↑(mkN x138.fst x138.snd.toNat) : Int))) (n139) (n140) (n141) (n142) (n143) (s144) (n145) (l146) (n147) (n148) (n149) (n150) (s151) (l152)))
    else none)
  else J f26t18 (f26s12 (x138) (n139) (n140) (n141) (n142) (n143) (s144) (n145) (l146) (n147) (n148) (n149) (n150) (s151) (l152))) := by kernel_rfl
theorem f26_10 {R : Type} (J : List Item → St → Option R) (kk : V → List Ob → Option R) (x153 : List Int × Int) (n154 : Int) (n155 : Int) (n156 : Int) (n157 : Int) (n158 : Int) (s159 : List UInt8) (n160 : Int) (n161 : Int) (n162 : Int) (n163 : Int) (n164 : Int) (s165 : List UInt8) :
  vseg ((E27 8)) f26cuts 1 J (vend ((E27 8)) 1 (fb Tryd.f26).1.results.toList false kk) 100000 true f26t18 (f26s10 x153 n154 n155 n156 n157 n158 s159 n160 n161 n162 n163 n164 s165) =
  J f26t19 (f26s13 (0 : Int) (x153) (n154) (n155) (n156) (n157) (n158) (s159) (n160) (n161) (n162) (n163) (n164) (s165)) := by kernel_rfl
theorem f26_11 {R : Type} (J : List Item → St → Option R) (kk : V → List Ob → Option R) (x166 : List Int × Int) (n167 : Int) (n168 : Int) (n169 : Int) (n170 : Int) (n171 : Int) (s172 : List UInt8) (n173 : Int) (l174 : List (Int × Int × Int)) (n175 : Int) (n176 : Int) (n177 : Int) (n178 : Int) (s179 : List UInt8) (l180 : List Bool) (l181 : List Int) :
  vseg ((E27 8)) f26cuts 1 J (vend ((E27 8)) 1 (fb Tryd.f26).1.results.toList false kk) 100000 true f26t18 (f26s11 x166 n167 n168 n169 n170 n171 s172 n173 l174 n175 n176 n177 n178 s179 l180 l181) =
  J f26t19 (f26s14 (0 : Int) (x166) (n167) (n168) (n169) (n170) (n171) (s172) (n173) (l174) (n175) (n176) (n177) (n178) (s179) (l180) (l181)) := by kernel_rfl
theorem f26_12 {R : Type} (J : List Item → St → Option R) (kk : V → List Ob → Option R) (x182 : List Int × Int) (n183 : Int) (n184 : Int) (n185 : Int) (n186 : Int) (n187 : Int) (s188 : List UInt8) (n189 : Int) (l190 : List (Int × Int × Int)) (n191 : Int) (n192 : Int) (n193 : Int) (n194 : Int) (s195 : List UInt8) (l196 : List Bool) :
  vseg ((E27 8)) f26cuts 1 J (vend ((E27 8)) 1 (fb Tryd.f26).1.results.toList false kk) 100000 true f26t18 (f26s12 x182 n183 n184 n185 n186 n187 s188 n189 l190 n191 n192 n193 n194 s195 l196) =
  J f26t19 (f26s15 (0 : Int) (x182) (n183) (n184) (n185) (n186) (n187) (s188) (n189) (l190) (n191) (n192) (n193) (n194) (s195) (l196)) := by kernel_rfl
theorem f26_13 {R : Type} (J : List Item → St → Option R) (kk : V → List Ob → Option R) (n197 : Int) (x198 : List Int × Int) (n199 : Int) (n200 : Int) (n201 : Int) (n202 : Int) (n203 : Int) (s204 : List UInt8) (n205 : Int) (n206 : Int) (n207 : Int) (n208 : Int) (n209 : Int) (s210 : List UInt8) :
  vseg ((E27 8)) f26cuts 1 J (vend ((E27 8)) 1 (fb Tryd.f26).1.results.toList false kk) 100000 true f26t19 (f26s13 n197 x198 n199 n200 n201 n202 n203 s204 n205 n206 n207 n208 n209 s210) =
  (bif decide (n197 < (0 : Int)) then
    (bif bytesOk x198.fst && decide ((0 : Int) ≤ x198.snd) then
      none
    else none)
  else kk (V.agg [V.int IntKind.i64 n205, V.nilsl, V.nilsl, V.int IntKind.i64 n206, V.int IntKind.i64 n207, V.int IntKind.i64 n208, V.int IntKind.i64 n209, V.nilsl, V.str s210]) ([Ob.var [V.sl rU8 x198.fst, V.int IntKind.i64 x198.snd]])) := by kernel_rfl
theorem f26_14 {R : Type} (J : List Item → St → Option R) (kk : V → List Ob → Option R) (n211 : Int) (x212 : List Int × Int) (n213 : Int) (n214 : Int) (n215 : Int) (n216 : Int) (n217 : Int) (s218 : List UInt8) (n219 : Int) (l220 : List (Int × Int × Int)) (n221 : Int) (n222 : Int) (n223 : Int) (n224 : Int) (s225 : List UInt8) (l226 : List Bool) (l227 : List Int) :
  vseg ((E27 8)) f26cuts 1 J (vend ((E27 8)) 1 (fb Tryd.f26).1.results.toList false kk) 100000 true f26t19 (f26s14 n211 x212 n213 n214 n215 n216 n217 s218 n219 l220 n221 n222 n223 n224 s225 l226 l227) =
  (bif decide (n211 < (↑l226.length : Int)) then
    (bif bytesOk x212.fst && decide ((0 : Int) ≤ x212.snd) then
      (match idx l226 n211 with
        | some y244 => (match l226[n211.toNat]? with
          | some y245 => J f26t19 (f26s14 (IntKind.i64.wrap (n211 + (1 : Int))) ((x212.fst, (↑(mkN x212.fst x212.snd.toNat) : Int))) (n213) (n214) (n215) (n216) (n217) (s218) (n219) (l220) (n221) (n222) (n223) (n224) (s225) (l226.set n211.toNat (decide ((mkB x212.fst x212.snd.toNat).tmod (3 : Int) = (0 : Int)))) (l227))
          | none => none)
        | none => none)
    else none)
  else kk (V.agg [V.int IntKind.i64 n219, V.sl rPitch l220, V.sl rB l226, V.int IntKind.i64 n221, V.int IntKind.i64 n222, V.int IntKind.i64 n223, V.int IntKind.i64 n224, V.sl (Ks.cons (K.int IntKind.i64) Ks.nil) l227, V.str s225]) ([Ob.var [V.sl rU8 x212.fst, V.int IntKind.i64 x212.snd]])) := by kernel_rfl
theorem f26_15 {R : Type} (J : List Item → St → Option R) (kk : V → List Ob → Option R) (n228 : Int) (x229 : List Int × Int) (n230 : Int) (n231 : Int) (n232 : Int) (n233 : Int) (n234 : Int) (s235 : List UInt8) (n236 : Int) (l237 : List (Int × Int × Int)) (n238 : Int) (n239 : Int) (n240 : Int) (n241 : Int) (s242 : List UInt8) (l243 : List Bool) :
  vseg ((E27 8)) f26cuts 1 J (vend ((E27 8)) 1 (fb Tryd.f26).1.results.toList false kk) 100000 true f26t19 (f26s15 n228 x229 n230 n231 n232 n233 n234 s235 n236 l237 n238 n239 n240 n241 s242 l243) =
  (bif decide (n228 < (↑l243.length : Int)) then
    (bif bytesOk x229.fst && decide ((0 : Int) ≤ x229.snd) then
      (match idx l243 n228 with
        | some y246 => (match l243[n228.toNat]? with
          | some y247 => J f26t19 (f26s15 (IntKind.i64.wrap (n228 + (1 : Int))) ((x229.fst, (↑(mkN x229.fst x229.snd.toNat) : Int))) (n230) (n231) (n232) (n233) (n234) (s235) (n236) (l237) (n238) (n239) (n240) (n241) (s242) (l243.set n228.toNat (decide ((mkB x229.fst x229.snd.toNat).tmod (3 : Int) = (0 : Int)))))
          | none => none)
        | none => none)
    else none)
  else kk (V.agg [V.int IntKind.i64 n236, V.sl rPitch l237, V.sl rB l243, V.int IntKind.i64 n238, V.int IntKind.i64 n239, V.int IntKind.i64 n240, V.int IntKind.i64 n241, V.nilsl, V.str s242]) ([Ob.var [V.sl rU8 x229.fst, V.int IntKind.i64 x229.snd]])) := by kernel_rfl

end Vm.S07

open Go Go.Proofs
namespace Vm.S07
noncomputable abbrev f26F {R : Type} (kk : V → List Ob → Option R) (N : Nat) : List Item → St → Option R := vrun (E27 8) f26cuts 1 100000 (vend (E27 8) 1 (fb Tryd.f26).1.results.toList false kk) N
section
variable (l : List Int) (v : Vl)
noncomputable def e3 (a : Ev) (n : Int) (o : Mk) (i : Int) : St := match o with
  | none => f26s0 i (l, n) a 0 0 0 0 0 [] 0 v.1 v.2.1 v.2.2.1 v.2.2.2 []
  | some (ps, ts) => f26s1 i (l, n) a 0 0 0 0 0 [] 1 ps v.1 v.2.1 v.2.2.1 v.2.2.2 [] ts
noncomputable def e7 (n : Int) (o : Mk) : St := match o with
  | none => f26s2 (l, n) 0 0 0 0 0 [] 0 v.1 v.2.1 v.2.2.1 v.2.2.2 []
  | some (ps, ts) => f26s3 (l, n) 0 0 0 0 0 [] 1 ps v.1 v.2.1 v.2.2.1 v.2.2.2 [] ts
noncomputable def e12 (c n : Int) (o : Mk) : St := match o with
  | none => f26s4 c (l, n) 0 0 0 0 0 [] 0 v.1 v.2.1 v.2.2.1 v.2.2.2 []
  | some (ps, ts) => f26s5 c (l, n) 0 0 0 0 0 [] 1 ps v.1 v.2.1 v.2.2.1 v.2.2.2 [] ts
noncomputable def e13 (c j n : Int) (o : Mk) : St := match o with
  | none => f26s6 c j (l, n) 0 0 0 0 0 [] 0 v.1 v.2.1 v.2.2.1 v.2.2.2 []
  | some (ps, ts) => f26s7 c j (l, n) 0 0 0 0 0 [] 1 ps v.1 v.2.1 v.2.2.1 v.2.2.2 [] ts
noncomputable def e16 (n : Int) (o : Mk) : St := match o with
  | none => f26s8 (l, n) 0 0 0 0 0 [] 0 v.1 v.2.1 v.2.2.1 v.2.2.2 []
  | some (ps, ts) => f26s9 (l, n) 0 0 0 0 0 [] 1 ps v.1 v.2.1 v.2.2.1 v.2.2.2 [] ts
variable {l v}
theorem e3_step {R : Type} (kk : V → List Ob → Option R) (a : Ev) (n : Int) (o : Mk) (N i : Nat) (hl : a.ties.length ≤ 1000) (h1 : i < a.ties.length) (h2 : i < a.pitches.length) (ho : o.ok 1000) :
    f26F kk (N + 1) f26t3 (e3 l v a n o i) = f26F kk N f26t3 (e3 l v a n (if a.ties[i] then withS o a.pitches[i] else o) ((i + 1 : Nat) : Int)) := by
  have hp : a.snd.fst = a.pitches := rfl
  have ht : a.snd.snd.fst = a.ties := rfl
  rw [f26F, vrun_succ]
  match o, ho with
  | none, _ =>
    simp only [e3]
    rw [f26_0, hp, ht, bif_pos (by exact decide_eq_true (by omega)), idx_nat, idx_nat, List.getElem?_eq_getElem h1, List.getElem?_eq_getElem h2, wrap_succ (by omega)]
    dsimp only
    cases a.ties[i] <;> rfl
  | some (ps, ts), ho =>
    simp only [e3]
    rw [f26_1, hp, ht, bif_pos (by exact decide_eq_true (by omega)), idx_nat, idx_nat, List.getElem?_eq_getElem h1, List.getElem?_eq_getElem h2, wrap_succ (by omega)]
    dsimp only
    cases a.ties[i] with
    | false => rfl
    | true =>
      rw [cond_true, bif_pos (by exact decide_eq_true ho.2.2), if_pos rfl]
      simp only [withS]
      cases hasW a.pitches[i] ps <;> rfl
theorem e3_end {R : Type} (kk : V → List Ob → Option R) (a : Ev) (n : Int) (o : Mk) (N i : Nat) (h1 : ¬ i < a.ties.length) :
    f26F kk (N + 1) f26t3 (e3 l v a n o i) = f26F kk N f26t7 (e7 l v n o) := by
  have ht : a.snd.snd.fst = a.ties := rfl
  rw [f26F, vrun_succ]
  match o with
  | none =>
    simp only [e3, e7]
    rw [f26_0, ht, bif_neg (by exact decide_eq_false (by omega))]
  | some (ps, ts) =>
    simp only [e3, e7]
    rw [f26_1, ht, bif_neg (by exact decide_eq_false (by omega))]
theorem carryS_drop (a : Ev) (i : Nat) (o : Mk) (h1 : i < a.ties.length) (h2 : i < a.pitches.length) : carryS (a.pitches.drop i) (a.ties.drop i) o = carryS (a.pitches.drop (i + 1)) (a.ties.drop (i + 1)) (if a.ties[i] then withS o a.pitches[i] else o) := by
  rw [List.drop_eq_getElem_cons h1, List.drop_eq_getElem_cons h2, carryS]
theorem ifS_ok {m : Nat} {o : Mk} (h : o.ok m) (b : Bool) (p : Pt) : (if b then withS o p else o).ok (m + 1) := by
  cases b with
  | true => exact withS_ok h p
  | false => exact Mk.ok_mono h (by omega)
theorem e3_all {R : Type} (kk : V → List Ob → Option R) (a : Ev) (n : Int) (N : Nat) (hl : a.ties.length ≤ 900) (hpt : a.pitches.length = a.ties.length) : ∀ (d i : Nat) (o : Mk), i + d = a.ties.length → o.ok i →
    f26F kk (N + d + 1) f26t3 (e3 l v a n o i) = f26F kk N f26t7 (e7 l v n (carryS (a.pitches.drop i) (a.ties.drop i) o)) ∧ (carryS (a.pitches.drop i) (a.ties.drop i) o).ok (i + d) := by
  intro d
  induction d with
  | zero =>
    intro i o hi ho
    rw [List.drop_eq_nil_of_le (by omega), List.drop_eq_nil_of_le (by omega)]
    exact ⟨e3_end kk a n o N i (by omega), ho⟩
  | succ d ih =>
    intro i o hi ho
    have h1 : i < a.ties.length := by omega
    have h2 : i < a.pitches.length := by omega
    have e := ih (i + 1) (if a.ties[i] then withS o a.pitches[i] else o) (by omega) (ifS_ok ho _ _)
    rw [show N + (d + 1) + 1 = (N + d + 1) + 1 by omega, e3_step kk a n o (N + d + 1) i (by omega) h1 h2 (Mk.ok_mono ho (by omega)), carryS_drop a i o h1 h2]
    exact ⟨e.1, Mk.ok_mono e.2 (by omega)⟩
theorem e7_step {R : Type} (kk : V → List Ob → Option R) (n : Nat) (o : Mk) (N : Nat) (hb : bytesOk l = true) (ho : o.ok 1000) :
    f26F kk (N + 2) f26t7 (e7 l v n o) = f26F kk N f26t13 (e13 l v (countS o (mkB l n)) 0 ((mkN l n : Nat) : Int) o) := by
  have z : decide ((0 : Int) ≤ (n : Int)) = true := decide_eq_true (by omega)
  have r := mkB_range hb n
  have t1 := Int.tmod_nonneg 4 r.1
  have t2 := Int.tmod_lt_of_pos (mkB l n) (b := 4) (by omega)
  rw [f26F, vrun_succ]
  match o, ho with
  | none, _ =>
    simp only [e7, e13, countS]
    rw [f26_2, hb, z, Bool.and_self, cond_true, Int.toNat_natCast, vrun_succ, f26_4]
  | some (ps, ts), ho =>
    obtain ⟨h1, h2, h3⟩ := ho
    have hpos : 0 < ps.length := List.length_pos_iff.2 h1
    have w : IntKind.i64.wrap (((mkB l n).tmod 4).tdiv 2) = ((mkB l n).tmod 4).tdiv 2 := by
      rw [Int.tdiv_eq_ediv_of_nonneg t1]
      exact w64 (by omega) (by omega)
    simp only [e7, e13, countS]
    rw [f26_3, hb, z, Bool.and_self, cond_true, Int.toNat_natCast, bif_pos (by exact decide_eq_true (by omega)), w]
    by_cases h5 : 5 < ps.length
    · rw [bif_pos (by exact decide_eq_true (by omega)), if_pos h5, vrun_succ, f26_5]
    · rw [bif_neg (by exact decide_eq_false (by omega)), if_neg h5, vrun_succ, f26_5]
end
section
variable {l : List Int} {v : Vl}
theorem e13_step {R : Type} (kk : V → List Ob → Option R) (c : Int) (hc : c ≤ 3) (n : Nat) (o : Mk) (N j : Nat) (hj : (j : Int) < c) (hb : bytesOk l = true) (ho : o.ok 1000) :
    f26F kk (N + 1) f26t13 (e13 l v c j n o) = f26F kk N f26t13 (e13 l v c ((j + 1 : Nat) : Int) ((mkN l (mkN l n) : Nat) : Int) (withS o (newP l n))) := by
  have z : ∀ m : Nat, decide ((0 : Int) ≤ (m : Int)) = true := fun m => decide_eq_true (by omega)
  have r := mkB_range hb (mkN l n)
  have t1 := Int.tmod_nonneg 2 r.1
  have t2 := Int.tmod_lt_of_pos (mkB l (mkN l n)) (b := 2) (by omega)
  have w : IntKind.i64.wrap (4 + (mkB l (mkN l n)).tmod 2) = 4 + (mkB l (mkN l n)).tmod 2 := w64 (by omega) (by omega)
  rw [f26F, vrun_succ]
  match o, ho with
  | none, _ =>
    simp only [e13]
    rw [f26_6, bif_pos (by exact decide_eq_true (by omega)), wrap_succ (by omega)]
    simp only [Int.toNat_natCast, hb, z, Bool.and_self, cond_true, w]
    rfl
  | some (ps, ts), ho =>
    simp only [e13]
    rw [f26_7, bif_pos (by exact decide_eq_true (by omega)), wrap_succ (by omega)]
    simp only [Int.toNat_natCast, hb, z, Bool.and_self, cond_true, w]
    rw [bif_pos (by exact decide_eq_true ho.2.2)]
    simp only [withS]
    rw [show ((mkB l n).tmod 7, Int.ofNat 0, 4 + (mkB l (mkN l n)).tmod 2) = newP l n from rfl]
    cases hasW (newP l n) ps <;> rfl
theorem e13_end {R : Type} (kk : V → List Ob → Option R) (c : Int) (n : Int) (o : Mk) (N j : Nat) (hj : ¬ (j : Int) < c) :
    f26F kk (N + 1) f26t13 (e13 l v c j n o) = f26F kk N f26t16 (e16 l v n o) := by
  rw [f26F, vrun_succ]
  match o with
  | none =>
    simp only [e13, e16]
    rw [f26_6, bif_neg (by exact decide_eq_false hj)]
  | some (ps, ts) =>
    simp only [e13, e16]
    rw [f26_7, bif_neg (by exact decide_eq_false hj)]
theorem e13_all {R : Type} (kk : V → List Ob → Option R) (c : Int) (hc : c ≤ 3) (N : Nat) (hb : bytesOk l = true) : ∀ (k j n m : Nat) (o : Mk), (j : Int) + k = c → o.ok m → m + k ≤ 900 →
    f26F kk (N + k + 1) f26t13 (e13 l v c j n o) = f26F kk N f26t16 (e16 l v ((moreS l k n o).2 : Nat) (moreS l k n o).1) ∧ (moreS l k n o).1.ok (m + k) := by
  intro k
  induction k with
  | zero =>
    intro j n m o hj ho hm
    exact ⟨e13_end kk c n o N j (by omega), ho⟩
  | succ k ih =>
    intro j n m o hj ho hm
    have e := ih (j + 1) (mkN l (mkN l n)) (m + 1) (withS o (newP l n)) (by omega) (withS_ok ho _) (by omega)
    rw [show N + (k + 1) + 1 = (N + k + 1) + 1 by omega, e13_step kk c hc n o (N + k + 1) j (by omega) hb (Mk.ok_mono ho (by omega)), moreS]
    exact ⟨e.1, Mk.ok_mono e.2 (by omega)⟩
end
section
variable {l : List Int} {v : Vl}
/-- what event leaves -/
abbrev evO (k : Int) (x y : V) (v : Vl) (m : V) : V := .agg [.int .i64 k, x, y, .int .i64 v.1, .int .i64 v.2.1, .int .i64 v.2.2.1, .int .i64 v.2.2.2, m, .str []]
theorem get_mid {α : Type} (d : List α) (b : α) (r : List α) : (d ++ b :: r)[d.length]? = some b := by simp
theorem set_mid {α : Type} (d : List α) (b x : α) (r : List α) : (d ++ b :: r).set d.length x = (d ++ [x]) ++ r := by simp
theorem e19a {R : Type} (kk : V → List Ob → Option R) (ps : List Pt) (ms : List Int) (hb : bytesOk l = true) : ∀ (r : List Bool) (d : List Bool) (n : Nat), d.length + r.length ≤ 1000 →
    f26F kk (r.length + 1) f26t19 (f26s14 d.length (l, (n : Int)) 0 0 0 0 0 [] 1 ps v.1 v.2.1 v.2.2.1 v.2.2.2 [] (d ++ r) ms) = kk (evO 1 (.sl rPitch ps) (.sl rB (d ++ (tiesS l r n).1)) v (.sl rI ms)) [mkOb l (tiesS l r n).2] := by
  have z : ∀ m : Nat, decide ((0 : Int) ≤ (m : Int)) = true := fun m => decide_eq_true (by omega)
  intro r
  induction r with
  | nil =>
    intro d n hd
    rw [f26F, vrun_succ, f26_14, bif_neg (by exact decide_eq_false (by simp))]
    rfl
  | cons b r ih =>
    intro d n hd
    rw [List.length_cons] at hd
    rw [List.length_cons, f26F, vrun_succ, f26_14, bif_pos (by exact decide_eq_true (by simp only [List.length_append, List.length_cons]; omega)), wrap_succ (by omega)]
    simp only [Int.toNat_natCast, hb, z, Bool.and_self, cond_true, idx_nat, get_mid, set_mid]
    have e := ih (d ++ [decide ((mkB l n).tmod 3 = 0)]) (mkN l n) (by simp only [List.length_append, List.length_cons, List.length_nil]; omega)
    rw [List.length_append] at e
    refine e.trans ?_
    simp only [tiesS, List.append_assoc, List.singleton_append]
theorem e19b {R : Type} (kk : V → List Ob → Option R) (ps : List Pt) (hb : bytesOk l = true) : ∀ (r : List Bool) (d : List Bool) (n : Nat), d.length + r.length ≤ 1000 →
    f26F kk (r.length + 1) f26t19 (f26s15 d.length (l, (n : Int)) 0 0 0 0 0 [] 1 ps v.1 v.2.1 v.2.2.1 v.2.2.2 [] (d ++ r)) = kk (evO 1 (.sl rPitch ps) (.sl rB (d ++ (tiesS l r n).1)) v .nilsl) [mkOb l (tiesS l r n).2] := by
  have z : ∀ m : Nat, decide ((0 : Int) ≤ (m : Int)) = true := fun m => decide_eq_true (by omega)
  intro r
  induction r with
  | nil =>
    intro d n hd
    rw [f26F, vrun_succ, f26_15, bif_neg (by exact decide_eq_false (by simp))]
    rfl
  | cons b r ih =>
    intro d n hd
    rw [List.length_cons] at hd
    rw [List.length_cons, f26F, vrun_succ, f26_15, bif_pos (by exact decide_eq_true (by simp only [List.length_append, List.length_cons]; omega)), wrap_succ (by omega)]
    simp only [Int.toNat_natCast, hb, z, Bool.and_self, cond_true, idx_nat, get_mid, set_mid]
    have e := ih (d ++ [decide ((mkB l n).tmod 3 = 0)]) (mkN l n) (by simp only [List.length_append, List.length_cons, List.length_nil]; omega)
    rw [List.length_append] at e
    refine e.trans ?_
    simp only [tiesS, List.append_assoc, List.singleton_append]
/-- the event's value, as the code leaves it -/
def endV (l : List Int) (v : Vl) : Mk × Nat → V
  | (none, n) => evO 0 .nilsl .nilsl v .nilsl
  | (some (ps, ts), n) => evO 1 (.sl rPitch ps) (.sl rB (tiesS l ts (marksS l n).2).1) v (if (mkB l n).tmod 4 = 0 then .sl rI (marksS l n).1 else .nilsl)
theorem e16_all {R : Type} (kk : V → List Ob → Option R) (n : Nat) (o : Mk) (hb : bytesOk l = true) (ho : o.ok 1000) :
    ∃ N, f26F kk N f26t16 (e16 l v n o) = kk (endV l v (o, n)) [mkOb l (endS l v (o, n)).2] := by
  have z : ∀ m : Nat, decide ((0 : Int) ≤ (m : Int)) = true := fun m => decide_eq_true (by omega)
  match o, ho with
  | none, _ =>
    refine ⟨3, ?_⟩
    simp only [e16]
    rw [f26F, vrun_succ, f26_8, vrun_succ, f26_10, vrun_succ, f26_13, bif_neg (by decide)]
    rfl
  | some (ps, ts), ho =>
    obtain ⟨h1, h2, h3⟩ := ho
    have hpos : 0 < ps.length := List.length_pos_iff.2 h1
    have r := mkB_range hb (mkN l n)
    have t1 := Int.tmod_nonneg 4 r.1
    have t2 := Int.tmod_lt_of_pos (mkB l (mkN l n)) (b := 4) (by omega)
    have w : IntKind.i64.wrap (1 + (mkB l (mkN l n)).tmod 4) = 1 + (mkB l (mkN l n)).tmod 4 := w64 (by omega) (by omega)
    refine ⟨ts.length + 1 + 1 + 1, ?_⟩
    simp only [e16]
    rw [f26F, vrun_succ, f26_9, bif_pos (by exact decide_eq_true (by omega))]
    simp only [Int.toNat_natCast, hb, z, Bool.and_self, cond_true, w]
    by_cases hc : (mkB l n).tmod 4 = 0
    · rw [bif_pos (decide_eq_true hc), vrun_succ, f26_11]
      refine (e19a kk ps _ hb ts [] (mkN l (mkN l n)) (by simp; omega)).trans ?_
      simp only [endV, endS, marksS, if_pos hc, List.nil_append]
    · rw [bif_neg (decide_eq_false hc), vrun_succ, f26_12]
      refine (e19b kk ps hb ts [] (mkN l n) (by simp; omega)).trans ?_
      simp only [endV, endS, marksS, if_neg hc, List.nil_append]
theorem endV_rd (l : List Int) (v : Vl) (q : Mk × Nat) : rd true rEvent (endV l v q) = some (endS l v q).1 := by
  obtain ⟨o, n⟩ := q
  match o with
  | none => rfl
  | some (ps, ts) =>
    simp only [endV, endS]
    by_cases hc : (mkB l n).tmod 4 = 0
    · rw [if_pos hc]; rfl
    · rw [if_neg hc, show (marksS l n).1 = [] by simp only [marksS, if_neg hc]]; rfl
end
def eventG (l : List Int) (n : Int) (a : Ev) : Bool := bytesOk l && (decide (0 ≤ n) && (decide (a.pitches.length = a.ties.length) && decide (a.ties.length ≤ 800)))
theorem countS_range {l : List Int} (hb : bytesOk l = true) (o : Mk) (n : Nat) : 0 ≤ countS o (mkB l n) ∧ countS o (mkB l n) ≤ 3 := by
  have r := mkB_range hb n
  have t1 := Int.tmod_nonneg 4 r.1
  have t2 := Int.tmod_lt_of_pos (mkB l n) (b := 4) (by omega)
  match o with
  | none => simp only [countS]; omega
  | some (ps, ts) =>
    simp only [countS]
    split
    · omega
    · rw [Int.tdiv_eq_ediv_of_nonneg t1]; omega
theorem f26_run {R : Type} (kk : V → List Ob → Option R) (l : List Int) (n : Nat) (a : Ev) (h : eventG l n a = true) :
    ∃ N, f26F kk N [.code (fb Tryd.f26).2] (start [.ref 0 0 0 0, enc true rEvent a] [mkOb l n]) = kk (endV l (mkV l n) (moreS l (countS (firstS a) (mkB l (mkVN l n))).toNat (mkN l (mkVN l n)) (firstS a))) [mkOb l (eventS l n a).2] := by
  simp only [eventG, Bool.and_eq_true, decide_eq_true_eq] at h
  obtain ⟨hb, h0, h1, h2⟩ := h
  have e3 := fun N => e3_all (l := l) (v := mkV l n) kk a ((mkVN l n : Nat) : Int) N (by omega) h1 a.ties.length 0 none (by omega) trivial
  have ok1 : (firstS a).ok (0 + a.ties.length) := by have := (e3 0).2; rw [List.drop_zero, List.drop_zero] at this; exact this
  have hc := countS_range hb (firstS a) (mkVN l n)
  obtain ⟨k, hk⟩ : ∃ k : Nat, countS (firstS a) (mkB l (mkVN l n)) = (k : Int) := ⟨(countS (firstS a) (mkB l (mkVN l n))).toNat, by omega⟩
  have e13 := fun N => e13_all (l := l) (v := mkV l n) kk (k : Int) (by omega) N hb k 0 (mkN l (mkVN l n)) (0 + a.ties.length) (firstS a) (by omega) ok1 (by omega)
  obtain ⟨N, hN⟩ := e16_all (l := l) (v := mkV l n) kk (moreS l k (mkN l (mkVN l n)) (firstS a)).2 (moreS l k (mkN l (mkVN l n)) (firstS a)).1 hb (Mk.ok_mono (e13 0).2 (by omega))
  refine ⟨N + k + 1 + 2 + a.ties.length + 1 + 1, ?_⟩
  rw [f26F, vrun_succ]
  refine (f26_go _ kk l n a).trans ?_
  rw [hb, decide_eq_true h0, Bool.and_self, cond_true, Int.toNat_natCast]
  refine (e3 (N + k + 1 + 2)).1.trans ?_
  rw [List.drop_zero, List.drop_zero, show carryS a.pitches a.ties none = firstS a from rfl, e7_step kk (mkVN l n) (firstS a) (N + k + 1) hb (Mk.ok_mono ok1 (by omega)), hk]
  refine (e13 N).1.trans ?_
  rw [hN]
  simp only [eventS, hk, Int.toNat_natCast]
theorem f26_c (l : List Int) (n : Nat) (a : Ev) (h : eventG l n a = true) : Contract Tryd.prog gls 26 [.ref 0 0 0 0, enc true rEvent a] [mkOb l n] (enc true rEvent (eventS l n a).1) [mkOb l (eventS l n a).2] := by
  obtain ⟨N, hn⟩ := f26_run (fun v os => some (v, os)) l n a h
  have hroot : rootsN [.ref 0 0 0 0, enc true rEvent a] = 1 := by kernel_rfl
  have := contract_of (P := Tryd.prog) (E := E27 8) (args := [.ref 0 0 0 0, enc true rEvent a]) (os := [mkOb l n]) mixed (ready27 8) (f := 26) (fn := (fb Tryd.f26).1) (c := (fb Tryd.f26).2) Tryd.func26 (by kernel_rfl) (by kernel_rfl) (by decide) (own := false) (cuts := f26cuts) (F := 100000) (n := N) (by rw [glE27]; exact rfOk_no (by kernel_rfl)) (by rw [hroot]; exact hn) (by rw [hroot]; exact Nat.le_refl 1)
  rw [glE27] at this
  exact this.res (fun _ _ _ _ hr => rd_rep (endV_rd l (mkV l n) _) (by intro h; cases h) hr) (enc_ids true rEvent _).1
theorem contract_args2 {P : Program} {gl : Gl} {f : Nat} {args args' : List V} {os os' : List Ob} {v : V} (hc : Contract P gl f args' os v os') (hr : ∀ (w : World) (A : ASet) (η : Nat → Option Nat) (cs : List Value), V.RepL w A η (obs os) args cs → V.RepL w A η (obs os) args' cs)
    (hi : ∀ i ∈ V.idsL args', obs os i ≠ none) (hro : rootsN args = rootsN args') : Contract P gl f args os v os' := by
  intro w A η ok cs hrep hdom o a Q K hK
  exact hc w A η ok cs (hr w A η _ hrep) hi o a Q K (by rw [← hro]; exact hK)
/-- reads the maker and an event -/
def rdMkE : List V → List Ob → Option (List Int × Int × Ev)
  | [.ref 0 0 0 0, e], [.var [a, b]] => match rd true rEvent e, slX rU8 a, intX b with
    | some e, some l, some n => some (l, n, e)
    | _, _, _ => none
  | _, _ => none
noncomputable def f26e : Entry Tryd.prog gls where
  f := 26
  g := fun args os => match rdMkE args os with
    | some (l, n, a) => some (eventG l n a, enc true rEvent (eventS l n.toNat a).1, [mkOb l (eventS l n.toNat a).2])
    | none => none
  says := fun args os c v os' h hc => by
    subst hc
    split at h
    · rename_i l n a hm
      unfold rdMkE at hm
      split at hm
      · rename_i e x y
        split at hm
        · rename_i a' l' n' h1 h2 h3
          simp only [Option.some.injEq, Prod.mk.injEq] at hm
          obtain ⟨rfl, rfl, rfl⟩ := hm
          simp only [Option.some.injEq, Prod.mk.injEq] at h
          obtain ⟨hg, rfl, rfl⟩ := h
          have hg' := hg
          simp only [eventG, Bool.and_eq_true, decide_eq_true_eq] at hg'
          obtain ⟨k, rfl⟩ : ∃ k : Nat, n = (k : Int) := ⟨n.toNat, by omega⟩
          rw [slX_eq h2, intX_eq h3]
          refine contract_args2 (f26_c l k a hg) (fun w A η cs hr => ?_) ?_ ?_
          · simp only [V.RepL] at hr ⊢
            obtain ⟨c, l, rfl, q2, c', l2, rfl, q3, q4⟩ := hr
            exact ⟨c, _, rfl, q2, c', l2, rfl, rd_rep h1 (by intro h; cases h) q3, q4⟩
          · intro i hi
            simp only [V.idsL, V.ids, (enc_ids true rEvent a).1, List.append_nil, List.mem_singleton] at hi
            subst hi
            simp [obs]
          · simp [rootsN, V.rootsL, V.roots, (enc_ids true rEvent a).2, (rd_ids h1).2]
        · cases hm
      · cases hm
    · cases h
noncomputable def es28 : List (Entry Tryd.prog gls) := [f26e] ++ es27
noncomputable def E28 (n : Nat) : Env := interp fns (look tys) gls mvs (tabOf es28) 100000 n
theorem ready28 (n : Nat) : Ready Tryd.prog (E28 n) := ready_of mixed fnsAll tysOk rfsOk n
theorem glE28 (n : Nat) : (E28 n).gl = gls := by cases n <;> rfl
end Vm.S07

open Go Go.Proofs
namespace Vm.S07
noncomputable abbrev f11cuts : Cuts := look [(5, [2, 6, 7, 8, 9, 10]), (10, [2, 6, 7, 8, 9, 10])]
noncomputable abbrev f11t10 : List Item := itemsAt (fb Tryd.f11).2 10
noncomputable abbrev f11t5 : List Item := itemsAt (fb Tryd.f11).2 5
def f11s0 (b : Bool) (n1 : Int) (x2 : List Int × Int) (n3 : Int) (n4 : Int) (n5 : Int) (n6 : Int) (n7 : Int) (s8 : List UInt8) : St := { fr := [(2, V.bool b), (6, V.ref 0 0 0 0), (7, V.ref 1 0 0 0), (8, V.ref 2 0 0 0), (9, V.ref 3 0 0 0), (10, V.int IntKind.i64 n1)], hp := [(0, Ob.var [V.nilsl]), (1, Ob.var [V.sl rU8 x2.fst, V.int IntKind.i64 x2.snd]), (2, Ob.var [V.nilsl]), (3, Ob.var [V.int IntKind.i64 n3, V.nilsl, V.nilsl, V.int IntKind.i64 n4, V.int IntKind.i64 n5, V.int IntKind.i64 n6, V.int IntKind.i64 n7, V.nilsl, V.str s8])], nx := 4 }
def f11s1 (b : Bool) (n9 : Int) (x10 : List Int × Int) (n11 : Int) (l12 : List (Int × Int × Int)) (n13 : Int) (n14 : Int) (n15 : Int) (n16 : Int) (l17 : List Int) (s18 : List UInt8) (l19 : List Bool) : St := { fr := [(2, V.bool b), (6, V.ref 0 0 0 0), (7, V.ref 1 0 0 0), (8, V.ref 2 0 0 0), (9, V.ref 3 0 0 0), (10, V.int IntKind.i64 n9)], hp := [(0, Ob.var [V.nilsl]), (1, Ob.var [V.sl rU8 x10.fst, V.int IntKind.i64 x10.snd]), (2, Ob.var [V.nilsl]), (3, Ob.var [V.int IntKind.i64 n11, V.sl rPitch l12, V.own 4, V.int IntKind.i64 n13, V.int IntKind.i64 n14, V.int IntKind.i64 n15, V.int IntKind.i64 n16, V.sl rI l17, V.str s18]), (4, Ob.arr (Ks.cons K.bool Ks.nil) l19 false)], nx := 5 }
def f11s2 (b : Bool) (n20 : Int) (x21 : List Int × Int) (x22 : Int × List (Int × Int × Int) × List Bool × Int × Int × Int × Int × List Int × List UInt8) : St := { fr := [(2, V.bool b), (6, V.ref 0 0 0 0), (7, V.ref 1 0 0 0), (8, V.ref 2 0 0 0), (9, V.ref 3 0 0 0), (10, V.int IntKind.i64 n20)], hp := [(0, Ob.var [V.nilsl]), (1, Ob.var [V.sl rU8 x21.fst, V.int IntKind.i64 x21.snd]), (2, Ob.var [V.nilsl]), (3, Ob.var [V.int IntKind.i64 x22.fst, V.sl rPitch x22.snd.fst, V.sl rB x22.snd.snd.fst, V.int IntKind.i64 x22.snd.snd.snd.fst, V.int IntKind.i64 x22.snd.snd.snd.snd.fst, V.int IntKind.i64 x22.snd.snd.snd.snd.snd.fst, V.int IntKind.i64 x22.snd.snd.snd.snd.snd.snd.fst, V.sl rI x22.snd.snd.snd.snd.snd.snd.snd.fst, V.str x22.snd.snd.snd.snd.snd.snd.snd.snd])], nx := 4 }
def f11s3 (b : Bool) (n23 : Int) (x24 : List Int × Int) (n25 : Int) (l26 : List (Int × Int × Int)) (n27 : Int) (n28 : Int) (n29 : Int) (n30 : Int) (l31 : List Int) (s32 : List UInt8) (l33 : List (Int × List (Int × Int × Int) × List Bool × Int × Int × Int × Int × List Int × List UInt8)) (l34 : List Bool) : St := { fr := [(2, V.bool b), (6, V.ref 0 0 0 0), (7, V.ref 1 0 0 0), (8, V.ref 2 0 0 0), (9, V.ref 3 0 0 0), (10, V.int IntKind.i64 n23)], hp := [(0, Ob.var [V.nilsl]), (1, Ob.var [V.sl rU8 x24.fst, V.int IntKind.i64 x24.snd]), (2, Ob.var [V.own 4]), (3, Ob.var [V.int IntKind.i64 n25, V.sl rPitch l26, V.own 5, V.int IntKind.i64 n27, V.int IntKind.i64 n28, V.int IntKind.i64 n29, V.int IntKind.i64 n30, V.sl rI l31, V.str s32]), (4, Ob.arr (Ks.cons (K.int IntKind.i64) (Ks.cons (K.sl (Ks.cons (K.int IntKind.i64) (Ks.cons (K.int IntKind.i64) (Ks.cons (K.int IntKind.i64) Ks.nil)))) (Ks.cons (K.sl (Ks.cons K.bool Ks.nil)) (Ks.cons (K.int IntKind.i64) (Ks.cons (K.int IntKind.i64) (Ks.cons (K.int IntKind.i64) (Ks.cons (K.int IntKind.i64) (Ks.cons (K.sl (Ks.cons (K.int IntKind.i64) Ks.nil)) (Ks.cons K.str Ks.nil))))))))) l33 false), (5, Ob.arr (Ks.cons K.bool Ks.nil) l34 true)], nx := 6 }
def f11s4 (b : Bool) (n35 : Int) (x36 : List Int × Int) (x37 : Int × List (Int × Int × Int) × List Bool × Int × Int × Int × Int × List Int × List UInt8) (l38 : List (Int × List (Int × Int × Int) × List Bool × Int × Int × Int × Int × List Int × List UInt8)) : St := { fr := [(2, V.bool b), (6, V.ref 0 0 0 0), (7, V.ref 1 0 0 0), (8, V.ref 2 0 0 0), (9, V.ref 3 0 0 0), (10, V.int IntKind.i64 n35)], hp := [(0, Ob.var [V.nilsl]), (1, Ob.var [V.sl rU8 x36.fst, V.int IntKind.i64 x36.snd]), (2, Ob.var [V.own 4]), (3, Ob.var [V.int IntKind.i64 x37.fst, V.sl rPitch x37.snd.fst, V.sl rB x37.snd.snd.fst, V.int IntKind.i64 x37.snd.snd.snd.fst, V.int IntKind.i64 x37.snd.snd.snd.snd.fst, V.int IntKind.i64 x37.snd.snd.snd.snd.snd.fst, V.int IntKind.i64 x37.snd.snd.snd.snd.snd.snd.fst, V.sl rI x37.snd.snd.snd.snd.snd.snd.snd.fst, V.str x37.snd.snd.snd.snd.snd.snd.snd.snd]), (4, Ob.arr (Ks.cons (K.int IntKind.i64) (Ks.cons (K.sl (Ks.cons (K.int IntKind.i64) (Ks.cons (K.int IntKind.i64) (Ks.cons (K.int IntKind.i64) Ks.nil)))) (Ks.cons (K.sl (Ks.cons K.bool Ks.nil)) (Ks.cons (K.int IntKind.i64) (Ks.cons (K.int IntKind.i64) (Ks.cons (K.int IntKind.i64) (Ks.cons (K.int IntKind.i64) (Ks.cons (K.sl (Ks.cons (K.int IntKind.i64) Ks.nil)) (Ks.cons K.str Ks.nil))))))))) l38 false)], nx := 5 }
def f11s5 (b : Bool) (n39 : Int) (x40 : List Int × Int) (n41 : Int) (l42 : List (Int × Int × Int)) (n43 : Int) (n44 : Int) (n45 : Int) (n46 : Int) (l47 : List Int) (s48 : List UInt8) (l49 : List (Int × List (Int × Int × Int) × List Bool × Int × Int × Int × Int × List Int × List UInt8)) (l50 : List Bool) : St := { fr := [(2, V.bool b), (6, V.ref 0 0 0 0), (7, V.ref 1 0 0 0), (8, V.ref 2 0 0 0), (9, V.ref 3 0 0 0), (10, V.int IntKind.i64 n39)], hp := [(0, Ob.var [V.nilsl]), (1, Ob.var [V.sl rU8 x40.fst, V.int IntKind.i64 x40.snd]), (2, Ob.var [V.own 4]), (3, Ob.var [V.int IntKind.i64 n41, V.sl rPitch l42, V.own 5, V.int IntKind.i64 n43, V.int IntKind.i64 n44, V.int IntKind.i64 n45, V.int IntKind.i64 n46, V.sl rI l47, V.str s48]), (4, Ob.arr (Ks.cons (K.int IntKind.i64) (Ks.cons (K.sl (Ks.cons (K.int IntKind.i64) (Ks.cons (K.int IntKind.i64) (Ks.cons (K.int IntKind.i64) Ks.nil)))) (Ks.cons (K.sl (Ks.cons K.bool Ks.nil)) (Ks.cons (K.int IntKind.i64) (Ks.cons (K.int IntKind.i64) (Ks.cons (K.int IntKind.i64) (Ks.cons (K.int IntKind.i64) (Ks.cons (K.sl (Ks.cons (K.int IntKind.i64) Ks.nil)) (Ks.cons K.str Ks.nil))))))))) l49 false), (5, Ob.arr (Ks.cons K.bool Ks.nil) l50 false)], nx := 6 }
def f11s6 (b : Bool) (n51 : Int) (x52 : List Int × Int) (x53 : Int × List (Int × Int × Int) × List Bool × Int × Int × Int × Int × List Int × List UInt8) (l54 : List (Int × List (Int × Int × Int) × List Bool × Int × Int × Int × Int × List Int × List UInt8)) : St := { fr := [(2, V.bool b), (6, V.ref 0 0 0 0), (7, V.ref 1 0 0 0), (8, V.ref 2 0 0 0), (9, V.ref 3 0 0 0), (10, V.int IntKind.i64 n51)], hp := [(0, Ob.var [V.nilsl]), (1, Ob.var [V.sl rU8 x52.fst, V.int IntKind.i64 x52.snd]), (2, Ob.var [V.own 4]), (3, Ob.var [V.int IntKind.i64 x53.fst, V.sl rPitch x53.snd.fst, V.sl rB x53.snd.snd.fst, V.int IntKind.i64 x53.snd.snd.snd.fst, V.int IntKind.i64 x53.snd.snd.snd.snd.fst, V.int IntKind.i64 x53.snd.snd.snd.snd.snd.fst, V.int IntKind.i64 x53.snd.snd.snd.snd.snd.snd.fst, V.sl rI x53.snd.snd.snd.snd.snd.snd.snd.fst, V.str x53.snd.snd.snd.snd.snd.snd.snd.snd]), (4, Ob.arr (Ks.cons (K.int IntKind.i64) (Ks.cons (K.sl (Ks.cons (K.int IntKind.i64) (Ks.cons (K.int IntKind.i64) (Ks.cons (K.int IntKind.i64) Ks.nil)))) (Ks.cons (K.sl (Ks.cons K.bool Ks.nil)) (Ks.cons (K.int IntKind.i64) (Ks.cons (K.int IntKind.i64) (Ks.cons (K.int IntKind.i64) (Ks.cons (K.int IntKind.i64) (Ks.cons (K.sl (Ks.cons (K.int IntKind.i64) Ks.nil)) (Ks.cons K.str Ks.nil))))))))) l54 false)], nx := 5 }
theorem f11_go {R : Type} (J : List Item → St → Option R) (kk : V → List Ob → Option R) (l : List Int) (m : Int) (b : Bool) :
  vseg ((E28 8)) f11cuts 0 J (vend ((E28 8)) 0 (fb Tryd.f11).1.results.toList false kk) 100000 true [.code (fb Tryd.f11).2] (start ([V.sl (Ks.cons (K.int IntKind.u8) Ks.nil) l, V.int IntKind.i64 m, V.bool b]) ([])) =
  (bif decide ((0 : Int) ≤ (0 : Int) ∧ ((0 : Int) ≤ if (400 : Int) < (↑l.length : Int) then (400 : Int) else (↑l.length : Int)) ∧ (if (400 : Int) < (↑l.length : Int) then (400 : Int) else (↑l.length : Int)) ≤ (↑l.length : Int) ∧ (↑l.length : Int) ≤ (↑l.length : Int)) then
    (bif bytesOk (List.take ((if (400 : Int) < (↑l.length : Int) then (400 : Int) else (↑l.length : Int)).toNat - Int.toNat (0 : Int)) (List.drop (Int.toNat (0 : Int)) l)) && decide ((0 : Int) ≤ Int.ofNat (0 : Nat)) then
      (bif decide (IntKind.i64.wrap (m + (1 : Int)) = (0 : Int)) then
        none
      else J f11t5 (f11s0 (b) ((mkB (List.take ((if (400 : Int) < (↑l.length : Int) then (400 : Int) else (↑l.length : Int)).toNat - Int.toNat (0 : Int)) (List.drop (Int.toNat (0 : Int)) l)) (Int.ofNat (0 : Nat)).toNat).tmod (IntKind.i64.wrap (m + (1 : Int)))) ((List.take ((if (400 : Int) < (↑l.length : Int) then (400 : Int) else (↑l.length : Int)).toNat - Int.toNat (0 : Int)) (List.drop (Int.toNat (0 : Int)) l), (↑(mkN (List.take ((if (400 : Int) < (↑l.length : Int) then (400 : Int) else (↑l.length : Int)).toNat - Int.toNat (0 : Int)) (List.drop (Int.toNat (0 : Int)) l)) (Int.ofNat (0 : Nat)).toNat) : Int))) (0 : Int) (0 : Int) (0 : Int) (0 : Int) (0 : Int) ([])))
    else none)
  else none) := by kernel_rfl
theorem f11_0 {R : Type} (J : List Item → St → Option R) (kk : V → List Ob → Option R) (b : Bool) (n1 : Int) (x2 : List Int × Int) (n3 : Int) (n4 : Int) (n5 : Int) (n6 : Int) (n7 : Int) (s8 : List UInt8) :
  vseg ((E28 8)) f11cuts 0 J (vend ((E28 8)) 0 (fb Tryd.f11).1.results.toList false kk) 100000 true f11t5 (f11s0 b n1 x2 n3 n4 n5 n6 n7 s8) =
  (bif decide ((0 : Int) < n1) then
    (bif eventG x2.fst x2.snd (n3, [], [], n4, n5, n6, n7, [], s8) then
      (bif decide (n1 = (1 : Int)) then
        (bif b then
          (bif decide ((0 : Int) ≤ (↑(List.length (eventS x2.fst x2.snd.toNat (n3, [], [], n4, n5, n6, n7, [], s8)).fst.snd.fst) : Int) ∧ (↑(List.length (eventS x2.fst x2.snd.toNat (n3, [], [], n4, n5, n6, n7, [], s8)).fst.snd.fst) : Int) ≤ (↑(List.length (eventS x2.fst x2.snd.toNat (n3, [], [], n4, n5, n6, n7, [], s8)).fst.snd.fst) : Int) ∧ (↑(List.length (eventS x2.fst x2.snd.toNat (n3, [], [], n4, n5, n6, n7, [], s8)).fst.snd.fst) : Int) * (↑1 : Int) ≤ (↑bytesMost : Int) ∧ (↑(List.length (eventS x2.fst x2.snd.toNat (n3, [], [], n4, n5, n6, n7, [], s8)).fst.snd.fst) : Int) ≤ (↑bytesMost : Int) ∧ 1 = (Ks.cons K.bool Ks.nil).len ∧ (0 : Nat) < 1) then
            J f11t10 (f11s1 (b) (n1) ((x2.fst, (↑(eventS x2.fst x2.snd.toNat (n3, [], [], n4, n5, n6, n7, [], s8)).snd : Int))) ((eventS x2.fst x2.snd.toNat (n3, [], [], n4, n5, n6, n7, [], s8)).fst.fst) ((eventS x2.fst x2.snd.toNat (n3, [], [], n4, n5, n6, n7, [], s8)).fst.snd.fst) ((eventS x2.fst x2.snd.toNat (n3, [], [], n4, n5, n6, n7, [], s8)).fst.snd.snd.snd.fst) ((eventS x2.fst x2.snd.toNat (n3, [], [], n4, n5, n6, n7, [], s8)).fst.snd.snd.snd.snd.fst) ((eventS x2.fst x2.snd.toNat (n3, [], [], n4, n5, n6, n7, [], s8)).fst.snd.snd.snd.snd.snd.fst) ((eventS x2.fst x2.snd.toNat (n3, [], [], n4, n5, n6, n7, [], s8)).fst.snd.snd.snd.snd.snd.snd.fst) ((eventS x2.fst x2.snd.toNat (n3, [], [], n4, n5, n6, n7, [], s8)).fst.snd.snd.snd.snd.snd.snd.snd.fst) ((eventS x2.fst x2.snd.toNat (n3, [], [], n4, n5, n6, n7, [], s8)).fst.snd.snd.snd.snd.snd.snd.snd.snd) (List.replicate (↑(List.length (eventS x2.fst x2.snd.toNat (n3, [], [], n4, n5, n6, n7, [], s8)).fst.snd.fst) : Int).toNat false))
          else none)
        else J f11t10 (f11s2 (b) (n1) ((x2.fst, (↑(eventS x2.fst x2.snd.toNat (n3, [], [], n4, n5, n6, n7, [], s8)).snd : Int))) ((eventS x2.fst x2.snd.toNat (n3, [], [], n4, n5, n6, n7, [], s8)).fst)))
      else J f11t10 (f11s2 (b) (n1) ((x2.fst, (↑(eventS x2.fst x2.snd.toNat (n3, [], [], n4, n5, n6, n7, [], s8)).snd : Int))) ((eventS x2.fst x2.snd.toNat (n3, [], [], n4, n5, n6, n7, [], s8)).fst)))
    else none)
  else kk (V.agg [V.nilsl]) ([])) := by kernel_rfl
theorem f11_1 {R : Type} (J : List Item → St → Option R) (kk : V → List Ob → Option R) (b : Bool) (n9 : Int) (x10 : List Int × Int) (n11 : Int) (l12 : List (Int × Int × Int)) (n13 : Int) (n14 : Int) (n15 : Int) (n16 : Int) (l17 : List Int) (s18 : List UInt8) (l19 : List Bool) :
  vseg ((E28 8)) f11cuts 0 J (vend ((E28 8)) 0 (fb Tryd.f11).1.results.toList false kk) 100000 true f11t10 (f11s1 b n9 x10 n11 l12 n13 n14 n15 n16 l17 s18 l19) =
  J f11t5 (f11s3 (b) (IntKind.i64.wrap (n9 - (1 : Int))) (x10) (n11) (l12) (n13) (n14) (n15) (n16) (l17) (s18) ([(n11, l12, l19, n13, n14, n15, n16, l17, s18)]) (l19)) := by kernel_rfl
theorem f11_2 {R : Type} (J : List Item → St → Option R) (kk : V → List Ob → Option R) (b : Bool) (n20 : Int) (x21 : List Int × Int) (x22 : Int × List (Int × Int × Int) × List Bool × Int × Int × Int × Int × List Int × List UInt8) :
  vseg ((E28 8)) f11cuts 0 J (vend ((E28 8)) 0 (fb Tryd.f11).1.results.toList false kk) 100000 true f11t10 (f11s2 b n20 x21 x22) =
  J f11t5 (f11s4 (b) (IntKind.i64.wrap (n20 - (1 : Int))) (x21) (x22) ([x22])) := by kernel_rfl
theorem f11_3 {R : Type} (J : List Item → St → Option R) (kk : V → List Ob → Option R) (b : Bool) (n23 : Int) (x24 : List Int × Int) (n25 : Int) (l26 : List (Int × Int × Int)) (n27 : Int) (n28 : Int) (n29 : Int) (n30 : Int) (l31 : List Int) (s32 : List UInt8) (l33 : List (Int × List (Int × Int × Int) × List Bool × Int × Int × Int × Int × List Int × List UInt8)) (l34 : List Bool) :
  vseg ((E28 8)) f11cuts 0 J (vend ((E28 8)) 0 (fb Tryd.f11).1.results.toList false kk) 100000 true f11t5 (f11s3 b n23 x24 n25 l26 n27 n28 n29 n30 l31 s32 l33 l34) =
  (bif decide ((0 : Int) < n23) then
    (bif eventG x24.fst x24.snd (n25, l26, l34, n27, n28, n29, n30, l31, s32) then
      (bif decide (n23 = (1 : Int)) then
        (bif b then
          (bif decide ((0 : Int) ≤ (↑(List.length (eventS x24.fst x24.snd.toNat (n25, l26, l34, n27, n28, n29, n30, l31, s32)).fst.snd.fst) : Int) ∧ (↑(List.length (eventS x24.fst x24.snd.toNat (n25, l26, l34, n27, n28, n29, n30, l31, s32)).fst.snd.fst) : Int) ≤ (↑(List.length (eventS x24.fst x24.snd.toNat (n25, l26, l34, n27, n28, n29, n30, l31, s32)).fst.snd.fst) : Int) ∧ (↑(List.length (eventS x24.fst x24.snd.toNat (n25, l26, l34, n27, n28, n29, n30, l31, s32)).fst.snd.fst) : Int) * (↑1 : Int) ≤ (↑bytesMost : Int) ∧ (↑(List.length (eventS x24.fst x24.snd.toNat (n25, l26, l34, n27, n28, n29, n30, l31, s32)).fst.snd.fst) : Int) ≤ (↑bytesMost : Int) ∧ 1 = (Ks.cons K.bool Ks.nil).len ∧ (0 : Nat) < 1) then
            J f11t10 (f11s5 (b) (n23) ((x24.fst, (↑(eventS x24.fst x24.snd.toNat (n25, l26, l34, n27, n28, n29, n30, l31, s32)).snd : Int))) ((eventS x24.fst x24.snd.toNat (n25, l26, l34, n27, n28, n29, n30, l31, s32)).fst.fst) ((eventS x24.fst x24.snd.toNat (n25, l26, l34, n27, n28, n29, n30, l31, s32)).fst.snd.fst) ((eventS x24.fst x24.snd.toNat (n25, l26, l34, n27, n28, n29, n30, l31, s32)).fst.snd.snd.snd.fst) ((eventS x24.fst x24.snd.toNat (n25, l26, l34, n27, n28, n29, n30, l31, s32)).fst.snd.snd.snd.snd.fst) ((eventS x24.fst x24.snd.toNat (n25, l26, l34, n27, n28, n29, n30, l31, s32)).fst.snd.snd.snd.snd.snd.fst) ((eventS x24.fst x24.snd.toNat (n25, l26, l34, n27, n28, n29, n30, l31, s32)).fst.snd.snd.snd.snd.snd.snd.fst) ((eventS x24.fst x24.snd.toNat (n25, l26, l34, n27, n28, n29, n30, l31, s32)).fst.snd.snd.snd.snd.snd.snd.snd.fst) ((eventS x24.fst x24.snd.toNat (n25, l26, l34, n27, n28, n29, n30, l31, s32)).fst.snd.snd.snd.snd.snd.snd.snd.snd) (l33) (List.replicate (↑(List.length (eventS x24.fst x24.snd.toNat (n25, l26, l34, n27, n28, n29, n30, l31, s32)).fst.snd.fst) : Int).toNat false))
          else none)
        else J f11t10 (f11s6 (b) (n23) ((x24.fst, (↑(eventS x24.fst x24.snd.toNat (n25, l26, l34, n27, n28, n29, n30, l31, s32)).snd : Int))) ((eventS x24.fst x24.snd.toNat (n25, l26, l34, n27, n28, n29, n30, l31, s32)).fst) (l33)))
      else J f11t10 (f11s6 (b) (n23) ((x24.fst, (↑(eventS x24.fst x24.snd.toNat (n25, l26, l34, n27, n28, n29, n30, l31, s32)).snd : Int))) ((eventS x24.fst x24.snd.toNat (n25, l26, l34, n27, n28, n29, n30, l31, s32)).fst) (l33)))
    else none)
  else kk (V.agg [V.sl (Ks.cons (K.int IntKind.i64) (Ks.cons (K.sl (Ks.cons (K.int IntKind.i64) (Ks.cons (K.int IntKind.i64) (Ks.cons (K.int IntKind.i64) Ks.nil)))) (Ks.cons (K.sl (Ks.cons K.bool Ks.nil)) (Ks.cons (K.int IntKind.i64) (Ks.cons (K.int IntKind.i64) (Ks.cons (K.int IntKind.i64) (Ks.cons (K.int IntKind.i64) (Ks.cons (K.sl (Ks.cons (K.int IntKind.i64) Ks.nil)) (Ks.cons K.str Ks.nil))))))))) l33]) ([])) := by kernel_rfl
theorem f11_4 {R : Type} (J : List Item → St → Option R) (kk : V → List Ob → Option R) (b : Bool) (n35 : Int) (x36 : List Int × Int) (x37 : Int × List (Int × Int × Int) × List Bool × Int × Int × Int × Int × List Int × List UInt8) (l38 : List (Int × List (Int × Int × Int) × List Bool × Int × Int × Int × Int × List Int × List UInt8)) :
  vseg ((E28 8)) f11cuts 0 J (vend ((E28 8)) 0 (fb Tryd.f11).1.results.toList false kk) 100000 true f11t5 (f11s4 b n35 x36 x37 l38) =
  (bif decide ((0 : Int) < n35) then
    (bif eventG x36.fst x36.snd x37 then
      (bif decide (n35 = (1 : Int)) then
        (bif b then
          (bif decide ((0 : Int) ≤ (↑(List.length (eventS x36.fst x36.snd.toNat x37).fst.snd.fst) : Int) ∧ (↑(List.length (eventS x36.fst x36.snd.toNat x37).fst.snd.fst) : Int) ≤ (↑(List.length (eventS x36.fst x36.snd.toNat x37).fst.snd.fst) : Int) ∧ (↑(List.length (eventS x36.fst x36.snd.toNat x37).fst.snd.fst) : Int) * (↑1 : Int) ≤ (↑bytesMost : Int) ∧ (↑(List.length (eventS x36.fst x36.snd.toNat x37).fst.snd.fst) : Int) ≤ (↑bytesMost : Int) ∧ 1 = (Ks.cons K.bool Ks.nil).len ∧ (0 : Nat) < 1) then
            J f11t10 (f11s5 (b) (n35) ((x36.fst, (↑(eventS x36.fst x36.snd.toNat x37).snd : Int))) ((eventS x36.fst x36.snd.toNat x37).fst.fst) ((eventS x36.fst x36.snd.toNat x37).fst.snd.fst) ((eventS x36.fst x36.snd.toNat x37).fst.snd.snd.snd.fst) ((eventS x36.fst x36.snd.toNat x37).fst.snd.snd.snd.snd.fst) ((eventS x36.fst x36.snd.toNat x37).fst.snd.snd.snd.snd.snd.fst) ((eventS x36.fst x36.snd.toNat x37).fst.snd.snd.snd.snd.snd.snd.fst) ((eventS x36.fst x36.snd.toNat x37).fst.snd.snd.snd.snd.snd.snd.snd.fst) ((eventS x36.fst x36.snd.toNat x37).fst.snd.snd.snd.snd.snd.snd.snd.snd) (l38) (List.replicate (↑(List.length (eventS x36.fst x36.snd.toNat x37).fst.snd.fst) : Int).toNat false))
          else none)
        else J f11t10 (f11s6 (b) (n35) ((x36.fst, (↑(eventS x36.fst x36.snd.toNat x37).snd : Int))) ((eventS x36.fst x36.snd.toNat x37).fst) (l38)))
      else J f11t10 (f11s6 (b) (n35) ((x36.fst, (↑(eventS x36.fst x36.snd.toNat x37).snd : Int))) ((eventS x36.fst x36.snd.toNat x37).fst) (l38)))
    else none)
  else kk (V.agg [V.sl (Ks.cons (K.int IntKind.i64) (Ks.cons (K.sl (Ks.cons (K.int IntKind.i64) (Ks.cons (K.int IntKind.i64) (Ks.cons (K.int IntKind.i64) Ks.nil)))) (Ks.cons (K.sl (Ks.cons K.bool Ks.nil)) (Ks.cons (K.int IntKind.i64) (Ks.cons (K.int IntKind.i64) (Ks.cons (K.int IntKind.i64) (Ks.cons (K.int IntKind.i64) (Ks.cons (K.sl (Ks.cons (K.int IntKind.i64) Ks.nil)) (Ks.cons K.str Ks.nil))))))))) l38]) ([])) := by kernel_rfl
theorem f11_5 {R : Type} (J : List Item → St → Option R) (kk : V → List Ob → Option R) (b : Bool) (n39 : Int) (x40 : List Int × Int) (n41 : Int) (l42 : List (Int × Int × Int)) (n43 : Int) (n44 : Int) (n45 : Int) (n46 : Int) (l47 : List Int) (s48 : List UInt8) (l49 : List (Int × List (Int × Int × Int) × List Bool × Int × Int × Int × Int × List Int × List UInt8)) (l50 : List Bool) :
  vseg ((E28 8)) f11cuts 0 J (vend ((E28 8)) 0 (fb Tryd.f11).1.results.toList false kk) 100000 true f11t10 (f11s5 b n39 x40 n41 l42 n43 n44 n45 n46 l47 s48 l49 l50) =
  (bif decide ((l49.length + 1) * 128 ≤ bytesMost) then
    J f11t5 (f11s3 (b) (IntKind.i64.wrap (n39 - (1 : Int))) (x40) (n41) (l42) (n43) (n44) (n45) (n46) (l47) (s48) (l49 ++ [(n41, l42, l50, n43, n44, n45, n46, l47, s48)]) (l50))
  else none) := by kernel_rfl
theorem f11_6 {R : Type} (J : List Item → St → Option R) (kk : V → List Ob → Option R) (b : Bool) (n51 : Int) (x52 : List Int × Int) (x53 : Int × List (Int × Int × Int) × List Bool × Int × Int × Int × Int × List Int × List UInt8) (l54 : List (Int × List (Int × Int × Int) × List Bool × Int × Int × Int × Int × List Int × List UInt8)) :
  vseg ((E28 8)) f11cuts 0 J (vend ((E28 8)) 0 (fb Tryd.f11).1.results.toList false kk) 100000 true f11t10 (f11s6 b n51 x52 x53 l54) =
  (bif decide ((l54.length + 1) * 128 ≤ bytesMost) then
    J f11t5 (f11s4 (b) (IntKind.i64.wrap (n51 - (1 : Int))) (x52) (x53) (l54 ++ [x53]))
  else none) := by kernel_rfl

end Vm.S07

open Go Go.Proofs
namespace Vm.S07
noncomputable abbrev f11F {R : Type} (kk : V → List Ob → Option R) (N : Nat) : List Item → St → Option R := vrun (E28 8) f11cuts 0 100000 (vend (E28 8) 0 (fb Tryd.f11).1.results.toList false kk) N
theorem eventG_of {l : List Int} {n : Nat} {a : Ev} (hb : bytesOk l = true) (h1 : a.pitches.length = a.ties.length) (h2 : a.ties.length ≤ 800) : eventG l n a = true := by
  simp only [eventG, Bool.and_eq_true, decide_eq_true_eq]
  exact ⟨hb, by omega, h1, h2⟩
theorem mk_fit {m : Nat} (h : m ≤ 1000) : decide ((0 : Int) ≤ (m : Int) ∧ (m : Int) ≤ (m : Int) ∧ (m : Int) * ((1 : Nat) : Int) ≤ (bytesMost : Int) ∧ (m : Int) ≤ (bytesMost : Int) ∧ 1 = (Ks.cons K.bool Ks.nil).len ∧ (0 : Nat) < 1) = true := by
  refine decide_eq_true ⟨by omega, by omega, ?_, ?_, rfl, by omega⟩ <;> (simp only [bytesMost]; omega)
theorem f11_all {R : Type} (kk : V → List Ob → Option R) (l : List Int) (b : Bool) (hb : bytesOk l = true) : ∀ (k n : Nat) (a : Ev) (out : Vo), a.pitches.length = a.ties.length → a.ties.length + 3 * k ≤ 800 → out.length + k ≤ 1000 →
    f11F kk (2 * k + 1) f11t5 (f11s4 b k (l, (n : Int)) a out) = kk (.agg [.sl rEvent (out ++ madeS l b k n a)]) [] := by
  intro k
  induction k with
  | zero =>
    intro n a out h1 h2 h3
    rw [f11F, vrun_succ, f11_4, bif_neg (by decide)]
    simp only [madeS, List.append_nil]
  | succ k ih =>
    intro n a out h1 h2 h3
    have hl := eventS_len hb n a
    have hm : decide ((out.length + 1) * 128 ≤ bytesMost) = true := decide_eq_true (by simp only [bytesMost]; omega)
    rw [show 2 * (k + 1) + 1 = (2 * k + 1) + 1 + 1 by omega, f11F, vrun_succ, f11_4, bif_pos (by exact decide_eq_true (by omega)), eventG_of hb h1 (by omega), cond_true]
    simp only [Int.toNat_natCast]
    have e1 : madeS l b (k + 1) n a = lastS b k (eventS l n a).1 :: madeS l b k (eventS l n a).2 (lastS b k (eventS l n a).1) := by rw [madeS]
    rw [e1]
    clear e1
    have plain : ∀ q : Ev × Nat, q.1.pitches.length = q.1.ties.length → q.1.pitches.length ≤ a.ties.length + 3 → lastS b k q.1 = q.1 → vrun (E28 8) f11cuts 0 100000 (vend (E28 8) 0 (fb Tryd.f11).1.results.toList false kk) (2 * k + 1 + 1) f11t10 (f11s6 b ((k + 1 : Nat) : Int) (l, (q.2 : Int)) q.1 out) = kk (.agg [.sl rEvent (out ++ lastS b k q.1 :: madeS l b k q.2 (lastS b k q.1))]) [] := by
      intro q q1 q2 he
      rw [vrun_succ, f11_6, hm, cond_true, w64 (n := ((k + 1 : Nat) : Int) - 1) (by omega) (by omega), show ((k + 1 : Nat) : Int) - 1 = (k : Int) by omega]
      refine (ih q.2 q.1 (out ++ [q.1]) q1 (by omega) (by simp only [List.length_append, List.length_cons, List.length_nil]; omega)).trans ?_
      rw [he, List.append_assoc, List.singleton_append]
    by_cases hk : k = 0
    · subst hk
      rw [bif_pos (by exact decide_eq_true (by omega))]
      cases b with
      | false => rw [cond_false]; exact plain _ hl.1 hl.2 rfl
      | true =>
        rw [cond_true, bif_pos (by exact mk_fit (m := (eventS l n a).1.pitches.length) (by omega))]
        generalize eventS l n a = q
        have e2 : lastS true 0 q.1 = q.1.loose := rfl
        have e3 : madeS l true 0 q.2 q.1.loose = [] := rfl
        rw [e2, e3, vrun_succ, f11_5, hm, cond_true, vrun_succ, f11_3, bif_neg (by decide)]
        rfl
    · rw [bif_neg (by exact decide_eq_false (by omega))]
      exact plain _ hl.1 hl.2 (by simp only [lastS, if_neg hk])
theorem f11_first {R : Type} (kk : V → List Ob → Option R) (l : List Int) (b : Bool) (hb : bytesOk l = true) (k n : Nat) (hk : k ≤ 200) (z : Ev) (hz : z = zEv) :
    f11F kk (2 * k + 1) f11t5 (f11s0 b k (l, (n : Int)) 0 0 0 0 0 []) = kk (.agg [voN (madeS l b k n z)]) [] := by
  cases k with
  | zero =>
    rw [f11F, vrun_succ, f11_0, bif_neg (by decide)]
    rfl
  | succ k =>
    have hl := eventS_len hb n z
    have ht : z.ties.length = 0 := by rw [hz]; rfl
    have ht2 : z.pitches.length = 0 := by rw [hz]; rfl
    rw [show 2 * (k + 1) + 1 = (2 * k + 1) + 1 + 1 by omega, f11F, vrun_succ, f11_0, bif_pos (by exact decide_eq_true (by omega)), show ((0 : Int), ([] : List Pt), ([] : List Bool), (0 : Int), (0 : Int), (0 : Int), (0 : Int), ([] : List Int), ([] : List UInt8)) = z from hz.symm, eventG_of hb (by omega) (by omega), cond_true]
    simp only [Int.toNat_natCast]
    have e1 : madeS l b (k + 1) n z = lastS b k (eventS l n z).1 :: madeS l b k (eventS l n z).2 (lastS b k (eventS l n z).1) := by rw [madeS]
    rw [e1]
    clear e1
    have plain : ∀ q : Ev × Nat, q.1.pitches.length = q.1.ties.length → q.1.pitches.length ≤ z.ties.length + 3 → lastS b k q.1 = q.1 → vrun (E28 8) f11cuts 0 100000 (vend (E28 8) 0 (fb Tryd.f11).1.results.toList false kk) (2 * k + 1 + 1) f11t10 (f11s2 b ((k + 1 : Nat) : Int) (l, (q.2 : Int)) q.1) = kk (.agg [voN (lastS b k q.1 :: madeS l b k q.2 (lastS b k q.1))]) [] := by
      intro q q1 q2 he
      rw [vrun_succ, f11_2, w64 (n := ((k + 1 : Nat) : Int) - 1) (by omega) (by omega), show ((k + 1 : Nat) : Int) - 1 = (k : Int) by omega]
      refine (f11_all kk l b hb k q.2 q.1 [q.1] q1 (by omega) (by simp only [List.length_cons, List.length_nil]; omega)).trans ?_
      rw [he, List.singleton_append, voN, if_neg (List.cons_ne_nil _ _)]
    by_cases hk0 : k = 0
    · subst hk0
      rw [bif_pos (by exact decide_eq_true (by omega))]
      cases b with
      | false => rw [cond_false]; exact plain _ hl.1 hl.2 rfl
      | true =>
        rw [cond_true, bif_pos (by exact mk_fit (m := (eventS l n z).1.pitches.length) (by omega))]
        generalize eventS l n z = q
        have e2 : lastS true 0 q.1 = q.1.loose := rfl
        have e3 : madeS l true 0 q.2 q.1.loose = [] := rfl
        rw [e2, e3, voN, if_neg (List.cons_ne_nil _ _), vrun_succ, f11_1, vrun_succ, f11_3, bif_neg (by decide)]
        rfl
    · rw [bif_neg (by exact decide_eq_false (by omega))]
      exact plain _ hl.1 hl.2 (by simp only [lastS, if_neg hk0])
theorem take400 (l : List Int) : List.take ((if (400 : Int) < (l.length : Int) then (400 : Int) else (l.length : Int)).toNat - Int.toNat 0) (List.drop (Int.toNat 0) l) = l.take 400 := by
  by_cases h : (400 : Int) < (l.length : Int)
  · rw [if_pos h]; rfl
  · rw [if_neg h]
    show List.take l.length l = l.take 400
    rw [List.take_of_length_le (Nat.le_refl _), List.take_of_length_le (by omega)]
def madeG (l : List Int) (m : Int) : Bool := bytesOk (l.take 400) && decide (0 ≤ m ∧ m ≤ 100)
theorem f11_run {R : Type} (kk : V → List Ob → Option R) (l : List Int) (m : Int) (b : Bool) (h : madeG l m = true) :
    ∃ N, f11F kk N [.code (fb Tryd.f11).2] (start [enc false (.cons (.sl rU8) .nil) l, enc false rI m, enc false rB b] []) = kk (.agg [voN (madeV l m b)]) [] := by
  simp only [madeG, Bool.and_eq_true, decide_eq_true_eq] at h
  obtain ⟨hb, h1, h2⟩ := h
  have r := mkB_range hb 0
  have t1 := Int.tmod_nonneg (m + 1) r.1
  have t2 := Int.tmod_lt_of_pos (mkB (l.take 400) 0) (b := m + 1) (by omega)
  obtain ⟨k, hk⟩ : ∃ k : Nat, (mkB (l.take 400) 0).tmod (m + 1) = (k : Int) := ⟨((mkB (l.take 400) 0).tmod (m + 1)).toNat, by omega⟩
  refine ⟨2 * k + 1 + 1, ?_⟩
  rw [f11F, vrun_succ]
  refine (f11_go _ kk l m b).trans ?_
  rw [take400, bif_pos (by
    refine decide_eq_true ?_
    split <;> omega), hb, w64 (n := m + 1) (by omega) (by omega)]
  rw [show decide ((0 : Int) ≤ Int.ofNat 0) = true from rfl, Bool.and_self, cond_true, bif_neg (by exact decide_eq_false (by omega)), show (Int.ofNat 0).toNat = 0 from rfl, hk]
  refine (f11_first kk (l.take 400) b hb k (mkN (l.take 400) 0) (by omega) zEv rfl).trans ?_
  rw [madeV, madeN, hk]
  rfl
noncomputable def f11e : Entry Tryd.prog gls := .three 11 false (.cons (.sl rU8) .nil) false rI false rB (by intro h; cases h <;> rfl) (by intro h; cases h <;> rfl) (by intro h; cases h <;> rfl) (fun (x : List Int) (y : Int) (z : Bool) => (madeG x y, enc true rVoice (madeV x y z))) fun x y z h => by
  obtain ⟨n, hn⟩ := f11_run (fun v os => some (v, os)) x y z h
  refine Contract.canon1 (a := true) (contract_run (fn := (fb Tryd.f11).1) (c := (fb Tryd.f11).2) mixed (ready28 8) (glE28 8) Tryd.func11 (by kernel_rfl) rfl rfl (by kernel_rfl) hn) (by intro h; cases h) ?_
  generalize madeV x y z = q
  cases q with
  | nil => rfl
  | cons e r => simp only [voN, if_neg (List.cons_ne_nil e r)]; rfl
noncomputable def es29 : List (Entry Tryd.prog gls) := [f11e] ++ es28
noncomputable def E29 (n : Nat) : Env := interp fns (look tys) gls mvs (tabOf es29) 100000 n
theorem ready29 (n : Nat) : Ready Tryd.prog (E29 n) := ready_of mixed fnsAll tysOk rfsOk n
theorem glE29 (n : Nat) : (E29 n).gl = gls := by cases n <;> rfl
end Vm.S07

/- What holds of made voices, in plain words. -/
open Go
namespace Vm
theorem madeS_len (l : List Int) (b : Bool) : ∀ (k n : Nat) (a : Ev), (madeS l b k n a).length = k
  | 0, _, _ => rfl
  | k + 1, n, a => by rw [madeS, List.length_cons, madeS_len l b k]
theorem madeN_range {l : List Int} {m : Int} (hb : bytesOk (l.take 400) = true) (hm : 0 ≤ m) : 0 ≤ madeN l m ∧ madeN l m ≤ m := by
  have r := mkB_range hb 0
  have t1 := Int.tmod_nonneg (m + 1) r.1
  have t2 := Int.tmod_lt_of_pos (mkB (l.take 400) 0) (b := m + 1) (by omega)
  unfold madeN
  omega
theorem madeV_len {l : List Int} {m : Int} (b : Bool) (hb : bytesOk (l.take 400) = true) (hm : 0 ≤ m) : (madeV l m b).length = (madeN l m).toNat ∧ (madeV l m b).length ≤ m.toNat := by
  have := madeN_range hb hm
  unfold madeV
  rw [madeS_len]
  omega
/-- what holds of each made event holds of each event of a made voice -/
theorem madeS_all {P : Ev → Prop} {l : List Int} {b : Bool} (hl : ∀ e, P e → P e.loose) : ∀ (k n : Nat) (a : Ev) (Q : Nat → Ev → Prop), (∀ j n a, Q j a → P (eventS l n a).1 ∧ Q (j + 1) (eventS l n a).1 ∧ Q (j + 1) (eventS l n a).1.loose) → ∀ j, Q j a → ∀ e ∈ madeS l b k n a, P e
  | 0, _, _, _, _, _, _, e, he => by cases he
  | k + 1, n, a, Q, hs, j, hq, e, he => by
    have h := hs j n a hq
    rw [madeS] at he
    have hl1 : P (lastS b k (eventS l n a).1) ∧ Q (j + 1) (lastS b k (eventS l n a).1) := by
      unfold lastS
      split
      · split
        · exact ⟨hl _ h.1, h.2.2⟩
        · exact ⟨h.1, h.2.1⟩
      · exact ⟨h.1, h.2.1⟩
    rcases List.mem_cons.1 he with rfl | he
    · exact hl1.1
    · exact madeS_all hl k _ _ Q hs (j + 1) hl1.2 e he
theorem mkV_base {l : List Int} (hb : bytesOk l = true) (n : Nat) : 1 ≤ (mkV l n).1 ∧ (mkV l n).1 ≤ 4 := by
  have r := mkB_range hb n
  have t1 := Int.tmod_nonneg 4 r.1
  have t2 := Int.tmod_lt_of_pos (mkB l n) (b := 4) (by omega)
  show 1 ≤ 1 + (mkB l n).tmod 4 ∧ 1 + (mkB l n).tmod 4 ≤ 4
  omega
theorem endS_base (l : List Int) (v : Vl) (q : Mk × Nat) : (endS l v q).1.val = v := by
  obtain ⟨o, n⟩ := q
  match o with
  | none => rfl
  | some (ps, ts) => rfl
theorem marksS_len (l : List Int) (n : Nat) : (marksS l n).1.length ≤ 1 := by
  unfold marksS
  split <;> simp
theorem endS_marks (l : List Int) (v : Vl) (q : Mk × Nat) : (Ev.mk (endS l v q).1).length ≤ 1 := by
  obtain ⟨o, n⟩ := q
  match o with
  | none => exact Nat.zero_le _
  | some (ps, ts) => exact marksS_len l n
/-- few, and short: what the walks ask of a made event -/
def Ev.few (e : Ev) : Prop := e.pitches.length = e.ties.length ∧ e.ties.length ≤ 800 ∧ (Ev.mk e).length ≤ 1 ∧ 1 ≤ e.val.1 ∧ e.val.1 ≤ 4
theorem madeV_few {l : List Int} {m : Int} (b : Bool) (hb : bytesOk (l.take 400) = true) (hm : 0 ≤ m ∧ m ≤ 100) : ∀ e ∈ madeV l m b, e.few := by
  have hk := madeN_range hb hm.1
  have key : ∀ (k n : Nat) (a : Ev) (j : Nat), k + j ≤ 200 → a.ties.length ≤ 3 * j → ∀ e ∈ madeS (l.take 400) b k n a, e.few := by
    intro k
    induction k with
    | zero => intro n a j _ _ e he; cases he
    | succ k ih =>
      intro n a j hj ha e he
      have h1 := eventS_len hb n a
      have f : (eventS (l.take 400) n a).1.few := ⟨h1.1, by omega, endS_marks _ _ _, by
        have := mkV_base hb n
        unfold eventS
        rw [endS_base]
        exact this⟩
      have f2 : (lastS b k (eventS (l.take 400) n a).1).few ∧ (lastS b k (eventS (l.take 400) n a).1).ties.length = (eventS (l.take 400) n a).1.ties.length := by
        have hl := lastS_len b k (eventS (l.take 400) n a).1 h1.1
        refine ⟨⟨hl.1, by omega, ?_, ?_⟩, by omega⟩
        · unfold lastS; split
          · split
            · exact f.2.2.1
            · exact f.2.2.1
          · exact f.2.2.1
        · unfold lastS; split
          · split
            · exact f.2.2.2
            · exact f.2.2.2
          · exact f.2.2.2
      rw [madeS] at he
      rcases List.mem_cons.1 he with rfl | he
      · exact f2.1
      · exact ih _ _ (j + 1) (by omega) (by omega) e he
  unfold madeV
  exact key (madeN l m).toNat _ zEv 0 (by omega) (by decide)
end Vm

