/- What the functions on pitches, events and chords, and the sorts, answer in plain words (no program stands here). -/
import Derived.Test.YtlbkefgnblajlaaDoorVmE
import Derived.Lib.DecodeN
import Derived.Test.YtlbkefgnblajlaaDoorVmC
import Derived.Sort.AssemblyPlain
set_option maxRecDepth 100000
open Go
namespace Vm
theorem take_drop_len {α : Type} (xs : List α) (k : Nat) : List.take (xs.length - k) (List.drop k xs) = List.drop k xs := List.take_of_length_le (by simp)
def isInt (y n : Int) : Bool := decide (y = n)
theorem isInt_eq {y n : Int} (h : isInt y n = true) : y = n := of_decide_eq_true h
abbrev Vl := Int × Int × Int × Int
def Vl.right (v : Vl) : Bool := decide (0 ≤ v.1 ∧ v.1 ≤ 6 ∧ 0 ≤ v.2.1 ∧ v.2.1 ≤ 2 ∧ ((v.2.2.1 = 0 ∧ v.2.2.2 = 0) ∨ (2 ≤ v.2.2.1 ∧ v.2.2.1 ≤ 15 ∧ 1 ≤ v.2.2.2 ∧ v.2.2.2 ≤ 15 ∧ v.2.2.1 ≠ v.2.2.2)))
abbrev Pt := Int × Int × Int
def Pt.half (s : Int) : Int := if s < 3 then 2 * s else 2 * s - 1
def Pt.num (p : Pt) : Int := 12 * (p.2.2 + 1) + Pt.half p.1 + p.2.1
def Pt.line (p : Pt) : Int := 7 * p.2.2 + p.1
def Pt.right (p : Pt) : Bool := decide (0 ≤ p.1 ∧ p.1 ≤ 6 ∧ -2 ≤ p.2.1 ∧ p.2.1 ≤ 2 ∧ -1 ≤ p.2.2 ∧ p.2.2 ≤ 9 ∧ 0 ≤ p.num ∧ p.num ≤ 127)
def sgn (a b : Int) : Int := if a < b then -1 else if b < a then 1 else 0
def Pt.cmp (a b : Pt) : Int := if a.right && b.right then (if sgn a.num b.num = 0 then sgn a.line b.line else sgn a.num b.num) else 0
def Pt.mild (p : Pt) : Bool := decide (0 ≤ p.1 ∧ p.1 ≤ 6 ∧ -1000 ≤ p.2.1 ∧ p.2.1 ≤ 1000 ∧ -1000 ≤ p.2.2 ∧ p.2.2 ≤ 1000)
theorem Pt.mild_of {p : Pt} (h : p.right = true) : p.mild = true := by
 simp only [Pt.right, Pt.mild, decide_eq_true_eq] at h ⊢; omega
theorem glHalf_idx {s : Int} (h₀ : 0 ≤ s) (h₁ : s ≤ 6) : idx ([0, 2, 4, 5, 7, 9, 11] : List Int) s = some (Pt.half s) := by
 have : s = 0 ∨ s = 1 ∨ s = 2 ∨ s = 3 ∨ s = 4 ∨ s = 5 ∨ s = 6 := by omega
 rcases this with rfl | rfl | rfl | rfl | rfl | rfl | rfl <;> rfl
theorem Pt.half_le {s : Int} (h₀ : 0 ≤ s) (h₁ : s ≤ 6) : 0 ≤ Pt.half s ∧ Pt.half s ≤ 11 := by unfold Pt.half; split <;> omega
theorem Pt.right_iff (p : Pt) : p.right = true ↔ (0 ≤ p.1 ∧ p.1 ≤ 6 ∧ -2 ≤ p.2.1 ∧ p.2.1 ≤ 2 ∧ -1 ≤ p.2.2 ∧ p.2.2 ≤ 9 ∧ 0 ≤ p.num ∧ p.num ≤ 127) := by simp [Pt.right]
def risesI : List Int → Bool
 | a :: b :: l => decide (a < b) && risesI (b :: l)
 | _ => true
def marked (l : List Int) : Bool := l.all (fun m => decide (1 ≤ m ∧ m ≤ 4)) && risesI l
def risesP : List Pt → Bool
 | a :: b :: l => decide (Pt.cmp b a > 0) && risesP (b :: l)
 | _ => true
def U.cls (a : Int) : Int × Int × Int :=
 if a < 128 then (1, 0, 0) else if a < 194 then (0, 0, 0) else if a ≤ 223 then (2, 128, 191) else if a = 224 then (3, 160, 191) else if a = 237 then (3, 128, 159) else if a ≤ 239 then (3, 128, 191)
 else if a = 240 then (4, 144, 191) else if a ≤ 243 then (4, 128, 191) else if a = 244 then (4, 128, 143) else (0, 0, 0)
def U.by (a : UInt8) : Int := (a.toNat : Int)
def U.cont (a : UInt8) : Bool := decide (128 ≤ U.by a ∧ U.by a ≤ 191)
def U.rune (s : List UInt8) : Nat := match s with
 | [] => 0
 | a :: r =>
   if (U.cls (U.by a)).1 = 1 then 1
   else match r with
    | [] => 0
    | b :: r =>
      if decide ((U.cls (U.by a)).2.1 ≤ U.by b ∧ U.by b ≤ (U.cls (U.by a)).2.2) then
       if (U.cls (U.by a)).1 = 2 then 2
       else match r with
        | [] => 0
        | c :: r =>
          if U.cont c then
           if (U.cls (U.by a)).1 = 3 then 3
           else match r with
            | [] => 0
            | d :: _ => if U.cont d && decide ((U.cls (U.by a)).1 = 4) then 4 else 0
          else 0
      else 0
theorem U.rune_le (s : List UInt8) : U.rune s ≤ s.length := by
 unfold U.rune
 repeat' split
 all_goals (simp only [List.length_nil, List.length_cons]; omega)
def U.valid (s : List UInt8) : Bool := if _h : s = [] then true else if _h₂ : U.rune s = 0 then false else U.valid (s.drop (U.rune s))
termination_by s.length
decreasing_by
 have : 0 < s.length := List.length_pos_iff.2 _h
 simp only [List.length_drop]; omega
def U.calm (s : List UInt8) : Bool := s.all fun a => decide (32 ≤ U.by a ∧ U.by a ≠ 127)
def plain (s : List UInt8) : Bool := decide (s.length ≤ 40) && (U.valid s && U.calm s)
abbrev Ev := Int × List (Int × Int × Int) × List Bool × Int × Int × Int × Int × List Int × List UInt8
def Ev.kind (x : Ev) : Int := x.1
def Ev.pitches (x : Ev) : List Pt := x.2.1
def Ev.ties (x : Ev) : List Bool := x.2.2.1
def Ev.val (x : Ev) : Vl := (x.2.2.2.1, x.2.2.2.2.1, x.2.2.2.2.2.1, x.2.2.2.2.2.2.1)
def Ev.marks (x : Ev) : List Int := x.2.2.2.2.2.2.2.1
def Ev.word (x : Ev) : List UInt8 := x.2.2.2.2.2.2.2.2
def Ev.right (x : Ev) : Bool := x.val.right && (plain x.word && (marked x.marks && (decide (x.ties.length = x.pitches.length) &&
 (if x.kind = 0 then decide (x.pitches.length = 0) && (decide (x.word = []) && x.marks.all (fun m => decide (m = 4)))
  else decide (x.kind = 1) && (decide (1 ≤ x.pitches.length) && (decide (x.pitches.length ≤ 8) && (x.pitches.all Pt.right && risesP x.pitches)))))))
def Ev.small (x : Ev) : Bool := decide (x.2.1.length < 4611686018427387904) && (decide (x.2.2.1.length < 4611686018427387904) && decide (x.2.2.2.2.2.2.2.1.length < 4611686018427387904))
def Ev.same (x y : Ev) : Bool := decide (x.1 = y.1) && (decide (x.2.1 = y.2.1) && (decide (x.2.2.1 = y.2.2.1) && (decide (x.2.2.2.1 = y.2.2.2.1) && (decide (x.2.2.2.2.1 = y.2.2.2.2.1) && (decide (x.2.2.2.2.2.1 = y.2.2.2.2.2.1) && (decide (x.2.2.2.2.2.2.1 = y.2.2.2.2.2.2.1) &&
 (decide (x.2.2.2.2.2.2.2.1 = y.2.2.2.2.2.2.2.1) && decide (x.2.2.2.2.2.2.2.2 = y.2.2.2.2.2.2.2.2))))))))
theorem Ev.same_iff (x y : Ev) : Ev.same x y = true ↔ x = y := by
 obtain ⟨a1, a2, a3, a4, a5, a6, a7, a8, a9⟩ := x
 obtain ⟨b1, b2, b3, b4, b5, b6, b7, b8, b9⟩ := y
 simp [Ev.same]
def utf8First : List Int := [240, 240, 240, 240, 240, 240, 240, 240, 240, 240, 240, 240, 240, 240, 240, 240, 240, 240, 240, 240, 240, 240, 240, 240, 240, 240, 240, 240, 240, 240, 240, 240, 240, 240, 240, 240, 240, 240, 240, 240, 240, 240, 240, 240, 240, 240, 240, 240, 240, 240, 240, 240, 240, 240, 240, 240, 240, 240, 240, 240, 240, 240, 240, 240, 240, 240, 240, 240, 240, 240, 240, 240, 240, 240, 240, 240, 240, 240, 240, 240, 240, 240, 240, 240, 240, 240, 240, 240, 240, 240, 240, 240, 240, 240, 240, 240, 240, 240, 240, 240, 240, 240, 240, 240, 240, 240, 240, 240, 240, 240, 240, 240, 240, 240, 240, 240, 240, 240, 240, 240, 240, 240, 240, 240, 240, 240, 240, 240, 241, 241, 241, 241, 241, 241, 241, 241, 241, 241, 241, 241, 241, 241, 241, 241, 241, 241, 241, 241, 241, 241, 241, 241, 241, 241, 241, 241, 241, 241, 241, 241, 241, 241, 241, 241, 241, 241, 241, 241, 241, 241, 241, 241, 241, 241, 241, 241, 241, 241, 241, 241, 241, 241, 241, 241, 241, 241, 241, 241, 241, 241, 241, 241, 241, 241, 2, 2, 2, 2, 2, 2, 2, 2, 2, 2, 2, 2, 2, 2, 2, 2, 2, 2, 2, 2, 2, 2, 2, 2, 2, 2, 2, 2, 2, 2, 19, 3, 3, 3, 3, 3, 3, 3, 3, 3, 3, 3, 3, 35, 3, 3, 52, 4, 4, 4, 68, 241, 241, 241, 241, 241, 241, 241, 241, 241, 241, 241]
def utf8Accept : List (Int × Int) := [(128, 191), (160, 191), (128, 159), (144, 191), (128, 143), (0, 0), (0, 0), (0, 0), (0, 0), (0, 0), (0, 0), (0, 0), (0, 0), (0, 0), (0, 0), (0, 0)]
def glDotted : List (Int × Int) := [(1, 1), (3, 2), (7, 4)]
def glHalf : List Int := [0, 2, 4, 5, 7, 9, 11]
end Vm
namespace Vm
end Vm
open Go
namespace Vm
def g4 (t : List UInt8) (k : Nat) : Nat := (t[k]?.getD 0).toNat
theorem get_drop (s : List UInt8) (p k : Nat) : ((⟨s.toArray⟩ : ByteArray).get! (p + k)).toNat = g4 (s.drop p) k := by
 have : (⟨s.toArray⟩ : ByteArray).get! (p + k) = s.toArray[p + k]! := rfl
 rw [this, g4, List.getElem?_drop]
 simp only [Array.getElem!_eq_getD, Array.getD_eq_getD_getElem?, List.getElem?_toArray]
 rfl
theorem decode_drop (s : List UInt8) (p : Nat) : Utf8.decode ⟨s.toArray⟩ p = Lib.decodeN (s.drop p).length (g4 (s.drop p) 0) (g4 (s.drop p) 1) (g4 (s.drop p) 2) (g4 (s.drop p) 3) := by
 have e0 := get_drop s p 0
 rw [Nat.add_zero] at e0
 rw [Lib.decode_at, e0, get_drop, get_drop, get_drop, List.length_drop]
 rfl
theorem g4_lt (t : List UInt8) (k : Nat) : g4 t k < 256 := UInt8.toNat_lt _
theorem slow2 {n b0 b1 b2 b3 lo hi : Nat} (h : 2 ≤ n) (h1 : lo ≤ b1) (h1' : b1 ≤ hi) : Lib.slowN n b0 b1 b2 b3 2 lo hi = (b0 % 32 * 64 + b1 % 64, 2) := by
 unfold Lib.slowN
 rw [if_neg (by omega), if_neg (by omega), if_pos (by omega)]
theorem slow3 {n b0 b1 b2 b3 lo hi : Nat} (h : 3 ≤ n) (h1 : lo ≤ b1) (h1' : b1 ≤ hi) (h2 : 128 ≤ b2) (h2' : b2 ≤ 191) : Lib.slowN n b0 b1 b2 b3 3 lo hi = (b0 % 16 * 4096 + b1 % 64 * 64 + b2 % 64, 3) := by
 unfold Lib.slowN
 rw [if_neg (by omega), if_neg (by omega), if_neg (by omega), if_neg (by omega), if_pos (by omega)]
theorem slow4 {n b0 b1 b2 b3 lo hi : Nat} (h : 4 ≤ n) (h1 : lo ≤ b1) (h1' : b1 ≤ hi) (h2 : 128 ≤ b2) (h2' : b2 ≤ 191) (h3 : 128 ≤ b3) (h3' : b3 ≤ 191) : Lib.slowN n b0 b1 b2 b3 4 lo hi = (b0 % 8 * 262144 + b1 % 64 * 4096 + b2 % 64 * 64 + b3 % 64, 4) := by
 unfold Lib.slowN
 rw [if_neg (by omega), if_neg (by omega), if_neg (by omega), if_neg (by omega), if_neg (by omega), if_neg (by omega)]
theorem U.rune_two {a b : UInt8} {r : List UInt8} {lo hi : Int} (h2 : U.cls (U.by a) = (2, lo, hi)) : U.rune (a :: b :: r) = if lo ≤ U.by b ∧ U.by b ≤ hi then 2 else 0 := by
 simp only [U.rune, h2]; simp
theorem U.rune_three {a b c : UInt8} {r : List UInt8} {lo hi : Int} (h2 : U.cls (U.by a) = (3, lo, hi)) : U.rune (a :: b :: c :: r) = if (lo ≤ U.by b ∧ U.by b ≤ hi) ∧ U.cont c = true then 3 else 0 := by
 by_cases hx : lo ≤ U.by b ∧ U.by b ≤ hi <;> by_cases hy : U.cont c = true <;> simp [U.rune, h2, hx, hy]
theorem U.rune_four {a b c d : UInt8} {r : List UInt8} {lo hi : Int} (h2 : U.cls (U.by a) = (4, lo, hi)) : U.rune (a :: b :: c :: d :: r) = if (lo ≤ U.by b ∧ U.by b ≤ hi) ∧ U.cont c = true ∧ U.cont d = true then 4 else 0 := by
 by_cases hx : lo ≤ U.by b ∧ U.by b ≤ hi <;> by_cases hy : U.cont c = true <;> by_cases hz : U.cont d = true <;> simp [U.rune, h2, hx, hy, hz]
theorem U.rune_short1 {a : UInt8} {n lo hi : Int} (h2 : U.cls (U.by a) = (n, lo, hi)) (hn : n ≠ 1) : U.rune [a] = 0 := by simp [U.rune, h2, hn]
theorem U.rune_short2 {a b : UInt8} {n lo hi : Int} (h2 : U.cls (U.by a) = (n, lo, hi)) (hn : n ≠ 1) (hn' : n ≠ 2) : U.rune [a, b] = 0 := by simp [U.rune, h2, hn, hn']
theorem U.rune_short3 {a b c : UInt8} {n lo hi : Int} (h2 : U.cls (U.by a) = (n, lo, hi)) (hn : n ≠ 1) (hn' : n ≠ 2) (hn'' : n ≠ 3) : U.rune [a, b, c] = 0 := by simp [U.rune, h2, hn, hn', hn'']
theorem U.rune_bad {a : UInt8} {r : List UInt8} {lo hi : Int} (h2 : U.cls (U.by a) = (0, lo, hi)) : U.rune (a :: r) = 0 := by
 simp only [U.rune, h2]
 repeat' split
 all_goals first | rfl | (simp_all; done) | (simp_all; omega)
theorem U.rune_low {a : UInt8} {r : List UInt8} {lo hi : Int} (h2 : U.cls (U.by a) = (1, lo, hi)) : U.rune (a :: r) = 1 := by simp [U.rune, h2]
theorem U.cls_cases (a : UInt8) : (U.by a < 128 ∧ U.cls (U.by a) = (1, 0, 0)) ∨ (((128 ≤ U.by a ∧ U.by a < 194) ∨ 244 < U.by a) ∧ U.cls (U.by a) = (0, 0, 0)) ∨ ((194 ≤ U.by a ∧ U.by a < 224) ∧ U.cls (U.by a) = (2, 128, 191)) ∨
  (U.by a = 224 ∧ U.cls (U.by a) = (3, 160, 191)) ∨ (U.by a = 237 ∧ U.cls (U.by a) = (3, 128, 159)) ∨ (((225 ≤ U.by a ∧ U.by a < 237) ∨ (238 ≤ U.by a ∧ U.by a < 240)) ∧ U.cls (U.by a) = (3, 128, 191)) ∨
  (U.by a = 240 ∧ U.cls (U.by a) = (4, 144, 191)) ∨ ((241 ≤ U.by a ∧ U.by a < 244) ∧ U.cls (U.by a) = (4, 128, 191)) ∨ (U.by a = 244 ∧ U.cls (U.by a) = (4, 128, 143)) := by
 have h0 : (0 : Int) ≤ U.by a := by simp [U.by]
 revert h0
 generalize U.by a = n
 intro h0
 simp only [U.cls]
 repeat' split
 all_goals simp
 all_goals omega
abbrev dec (t : List UInt8) : Nat × Nat := Lib.decodeN t.length (g4 t 0) (g4 t 1) (g4 t 2) (g4 t 3)
theorem U.calm_big {l : List UInt8} (h : ∀ a ∈ l, 128 ≤ U.by a) : U.calm l = true := by
 simp only [U.calm, List.all_eq_true, decide_eq_true_eq]
 intro a ha; have := h a ha; omega
theorem dec_rune (t : List UInt8) (h : U.rune t ≠ 0) : (dec t).2 = U.rune t ∧ (decide (((dec t).1 : Int) < 32) || decide (((dec t).1 : Int) = 127)) = !U.calm (t.take (U.rune t)) := by
 have big : ∀ (n v : Nat) (l : List UInt8), (∀ a ∈ l, 128 ≤ U.by a) → 128 ≤ v → (decide ((v : Int) < 32) || decide ((v : Int) = 127)) = !U.calm l := fun n v l hl hv => by
  rw [U.calm_big hl, decide_eq_false (by omega), decide_eq_false (by omega)]; rfl
 have low1 : ∀ n : Int, (decide (n < 32) || decide (n = 127)) = !decide (32 ≤ n ∧ n ≠ 127) := fun n => by
  by_cases h1 : n < 32
  ·simp [h1]; try omega
  ·by_cases h2 : n = 127
   ·simp [h2]
   ·simp [h1, h2]; omega
 match t, h with
 | [], h => exact absurd rfl h
 | [a], h =>
   rcases U.cls_cases a with ⟨h1, h2⟩ | ⟨h1, h2⟩ | ⟨h1, h2⟩ | ⟨h1, h2⟩ | ⟨h1, h2⟩ | ⟨h1, h2⟩ | ⟨h1, h2⟩ | ⟨h1, h2⟩ | ⟨h1, h2⟩
   ·rw [U.rune_low h2]
    have hd : dec [a] = (a.toNat, 1) := by
     simp only [dec, Lib.decodeN]; rw [if_pos (by simp [g4]; simp [U.by] at h1; omega)]; rfl
    rw [hd]
    refine ⟨rfl, ?_⟩
    simp only [List.take, U.calm, List.all_cons, List.all_nil, Bool.and_true, U.by]
    exact low1 _
   ·exact absurd (U.rune_bad h2) h
   all_goals exact absurd (U.rune_short1 h2 (by decide)) h
 | a :: b :: r, h =>
   have hb0 : g4 (a :: b :: r) 0 = a.toNat := rfl
   have hb1 : g4 (a :: b :: r) 1 = b.toNat := rfl
   have ha : U.by a = (a.toNat : Int) := rfl
   have hb : U.by b = (b.toNat : Int) := rfl
   have l1 := g4_lt (a :: b :: r) 1
   have l2 := g4_lt (a :: b :: r) 2
   have l3 := g4_lt (a :: b :: r) 3
   rcases U.cls_cases a with ⟨h1, h2⟩ | ⟨h1, h2⟩ | ⟨h1, h2⟩ | ⟨h1, h2⟩ | ⟨h1, h2⟩ | ⟨h1, h2⟩ | ⟨h1, h2⟩ | ⟨h1, h2⟩ | ⟨h1, h2⟩
   ·rw [U.rune_low h2]
    have hd : dec (a :: b :: r) = (a.toNat, 1) := by
     simp only [dec, Lib.decodeN]; rw [hb0, if_pos (by omega)]
    rw [hd]
    refine ⟨rfl, ?_⟩
    simp only [List.take, U.calm, List.all_cons, List.all_nil, Bool.and_true, U.by]
    exact low1 _
   ·exact absurd (U.rune_bad h2) h
   ·rw [U.rune_two h2] at h ⊢
    split at h
    ·rename_i hc
     rw [if_pos hc]
     have e : dec (a :: b :: r) = _ := (Lib.slow_C2 (a :: b :: r).length _ _ _ _ (by simp) l1 l2 l3 (by rw [hb0]; omega)).symm.trans (slow2 (by simp) (by rw [hb1]; omega) (by rw [hb1]; omega))
     rw [e]
     exact ⟨rfl, big 2 _ _ (by intro x hx; simp at hx; rcases hx with rfl | rfl <;> omega) (by rw [hb0, hb1]; omega)⟩
    ·exact absurd rfl h
   all_goals
    match r, h with
    | [], h => exact absurd (U.rune_short2 h2 (by decide) (by decide)) h
    | c :: r, h =>
      have hb2 : g4 (a :: b :: c :: r) 2 = c.toNat := rfl
      have hc' : U.by c = (c.toNat : Int) := rfl
      first
      | (rw [U.rune_three h2] at h ⊢
         split at h
         ·rename_i hc
          rw [if_pos hc]
          obtain ⟨hc1, hc2⟩ := hc
          simp only [U.cont, decide_eq_true_eq] at hc2
          have e : dec (a :: b :: c :: r) = _ := (by
           first
           | exact (Lib.slow_E0 (a :: b :: c :: r).length _ _ _ _ (by simp) l1 l2 l3 (by rw [hb0]; omega)).symm.trans (slow3 (by simp) (by rw [hb1]; omega) (by rw [hb1]; omega) (by rw [hb2]; omega) (by rw [hb2]; omega))
           | exact (Lib.slow_ED (a :: b :: c :: r).length _ _ _ _ (by simp) l1 l2 l3 (by rw [hb0]; omega)).symm.trans (slow3 (by simp) (by rw [hb1]; omega) (by rw [hb1]; omega) (by rw [hb2]; omega) (by rw [hb2]; omega))
           | exact (Lib.slow_E1 (a :: b :: c :: r).length _ _ _ _ (by simp) l1 l2 l3 (by rw [hb0]; omega)).symm.trans (slow3 (by simp) (by rw [hb1]; omega) (by rw [hb1]; omega) (by rw [hb2]; omega) (by rw [hb2]; omega)))
          rw [e]
          exact ⟨rfl, big 3 _ _ (by intro x hx; simp at hx; rcases hx with rfl | rfl | rfl <;> omega) (by rw [hb0, hb1, hb2]; omega)⟩
         ·exact absurd rfl h)
      | (match r, h with
         | [], h => exact absurd (U.rune_short3 h2 (by decide) (by decide) (by decide)) h
         | d :: r, h =>
           have hb3 : g4 (a :: b :: c :: d :: r) 3 = d.toNat := rfl
           have hd' : U.by d = (d.toNat : Int) := rfl
           rw [U.rune_four h2] at h ⊢
           split at h
           ·rename_i hc
            rw [if_pos hc]
            obtain ⟨hc1, hc2, hc3⟩ := hc
            simp only [U.cont, decide_eq_true_eq] at hc2 hc3
            have e : dec (a :: b :: c :: d :: r) = _ := (by
             first
             | exact (Lib.slow_F0 (a :: b :: c :: d :: r).length _ _ _ _ (by simp) l1 l2 l3 (by rw [hb0]; omega)).symm.trans (slow4 (by simp) (by rw [hb1]; omega) (by rw [hb1]; omega) (by rw [hb2]; omega) (by rw [hb2]; omega) (by rw [hb3]; omega) (by rw [hb3]; omega))
             | exact (Lib.slow_F4 (a :: b :: c :: d :: r).length _ _ _ _ (by simp) l1 l2 l3 (by rw [hb0]; omega)).symm.trans (slow4 (by simp) (by rw [hb1]; omega) (by rw [hb1]; omega) (by rw [hb2]; omega) (by rw [hb2]; omega) (by rw [hb3]; omega) (by rw [hb3]; omega))
             | exact (Lib.slow_F1 (a :: b :: c :: d :: r).length _ _ _ _ (by simp) l1 l2 l3 (by rw [hb0]; omega)).symm.trans (slow4 (by simp) (by rw [hb1]; omega) (by rw [hb1]; omega) (by rw [hb2]; omega) (by rw [hb2]; omega) (by rw [hb3]; omega) (by rw [hb3]; omega)))
            rw [e]
            exact ⟨rfl, big 4 _ _ (by intro x hx; simp at hx; rcases hx with rfl | rfl | rfl | rfl <;> omega) (by rw [hb0, hb1, hb2, hb3]; omega)⟩
           ·exact absurd rfl h)
theorem U.valid_nil : U.valid [] = true := by rw [U.valid]; rfl
theorem U.valid_step {s : List UInt8} (h : s ≠ []) (h2 : U.rune s ≠ 0) : U.valid s = U.valid (s.drop (U.rune s)) := by
 rw [U.valid, dif_neg h, dif_neg h2]
theorem U.valid_bad {s : List UInt8} (h : s ≠ []) (h2 : U.rune s = 0) : U.valid s = false := by
 rw [U.valid, dif_neg h, dif_pos h2]
theorem U.calm_split (s : List UInt8) (n : Nat) : U.calm s = (U.calm (s.take n) && U.calm (s.drop n)) := by
 unfold U.calm; rw [← List.all_append, List.take_append_drop]
end Vm
namespace Vm
theorem td (s : List UInt8) (k : Int) (n : Nat) (h : k = (n : Int)) : List.take ((s.length : Int).toNat - k.toNat) (List.drop k.toNat s) = s.drop n := by
 subst h; simp only [Int.toNat_natCast]; exact take_drop_len s n
theorem U.valid_low (k : Nat) : ∀ (s : List UInt8), lowAll (s.take k) = true → k ≤ s.length → U.valid s = U.valid (s.drop k) := by
 induction k with
 | zero => intro s _ _; rfl
 | succ k ih =>
   intro s h hl
   match s, h, hl with
   | a :: r, h, hl =>
     simp only [lowAll, List.take_succ_cons, List.all_cons, Bool.and_eq_true, decide_eq_true_eq] at h
     have e : U.cls (U.by a) = (1, 0, 0) := by simp only [U.cls]; rw [if_pos (by simp only [U.by]; omega)]
     rw [U.valid_step (by simp) (by rw [U.rune_low e]; decide), U.rune_low e]
     exact ih r (by simpa [lowAll] using h.2) (by simpa using hl)
def U.tab (n : Int) : Option (Int × Int × Int) := match idx utf8First n with
 | some y => match idx utf8Accept (y.fdiv ((2 : Int) ^ min (Int.toNat 4) IntKind.u8.bits)) with
   | some z => some (IntKind.i64.wrap (bitop BinOp.and IntKind.u8 y 7), z)
   | none => none
 | none => none
def U.tv (c : Int × Int × Int) : Int × Int × Int := if c.1 = 0 then (1, 0, 0) else c
theorem U.tab_eq (a : UInt8) (h : 128 ≤ U.by a) : U.tab (U.by a) = some (U.tv (U.cls (U.by a))) := by
 have : ∀ n : Fin 256, 128 ≤ n.val → U.tab (n.val : Int) = some (U.tv (U.cls (n.val : Int))) := by decide +kernel
 exact this ⟨a.toNat, a.toNat_lt⟩ (by show 128 ≤ a.toNat; simp only [U.by] at h; omega)
theorem idx_get {α : Type} (s : List α) (i : Int) (n : Nat) (h : i = (n : Int)) : idx s i = s[n]? := by subst h; exact idx_nat s n
end Vm
namespace Vm
theorem dec_pos (t : List UInt8) : 1 ≤ (dec t).2 := by
 simp only [dec, Lib.decodeN]
 repeat' split
 all_goals simp
def U.oddAt (s : List UInt8) : Nat → Nat → Int
 | 0, _ => -1
 | L + 1, p => if p < s.length then (if ((dec (s.drop p)).1 : Int) < 32 ∨ ((dec (s.drop p)).1 : Int) = 127 then p else U.oddAt s L (p + (dec (s.drop p)).2)) else -1
theorem U.oddAt_calm (s : List UInt8) : ∀ (L p : Nat), s.length ≤ p + L → p ≤ s.length → U.valid (s.drop p) = true → decide (0 ≤ U.oddAt s L p) = !U.calm (s.drop p) := by
 intro L
 induction L with
 | zero => intro p hp _ hv; rw [List.drop_eq_nil_of_le (by omega)]; rfl
 | succ L ih =>
   intro p hp hp' hv
   unfold U.oddAt
   by_cases h0 : p < s.length
   ·have hne : s.drop p ≠ [] := by
      intro e
      have := congrArg List.length e
      simp only [List.length_drop, List.length_nil] at this; omega
    have hr : U.rune (s.drop p) ≠ 0 := by
     intro e
     rw [U.valid_bad hne e] at hv; cases hv
    obtain ⟨d1, d2⟩ := dec_rune (s.drop p) hr
    rw [if_pos h0]
    by_cases c1 : ((dec (s.drop p)).1 : Int) < 32 ∨ ((dec (s.drop p)).1 : Int) = 127
    ·rw [if_pos c1]
     rw [← Bool.decide_or, decide_eq_true c1] at d2
     rw [U.calm_split _ (U.rune (s.drop p))]
     have : U.calm ((s.drop p).take (U.rune (s.drop p))) = false := by simpa using d2.symm
     rw [this]; simp
    ·rw [if_neg c1, d1]
     rw [← Bool.decide_or, decide_eq_false c1] at d2
     have hle := U.rune_le (s.drop p)
     rw [List.length_drop] at hle
     rw [U.valid_step hne hr, List.drop_drop] at hv
     rw [ih (p + U.rune (s.drop p)) (by omega) (by omega) hv, U.calm_split (s.drop p) (U.rune (s.drop p)), List.drop_drop]
     have : U.calm ((s.drop p).take (U.rune (s.drop p))) = true := by simpa using d2.symm
     rw [this, Bool.true_and]
   ·rw [if_neg h0, List.drop_eq_nil_of_le (by omega)]; rfl
theorem risesI_drop (l : List Int) (i : Nat) (h : i + 1 < l.length) : risesI (l.drop i) = (decide (l[i]'(by omega) < l[i + 1]) && risesI (l.drop (i + 1))) := by
 rw [List.drop_eq_getElem_cons (by omega : i < l.length), List.drop_eq_getElem_cons h]; rfl
theorem risesI_short {l : List Int} (h : l.length ≤ 1) : risesI l = true := by
 match l, h with
 | [], _ => rfl
 | [_], _ => rfl
theorem risesP_drop (l : List Pt) (i : Nat) (h : i + 1 < l.length) : risesP (l.drop i) = (decide (Pt.cmp l[i + 1] (l[i]'(by omega)) > 0) && risesP (l.drop (i + 1))) := by
 rw [List.drop_eq_getElem_cons (by omega : i < l.length), List.drop_eq_getElem_cons h]; rfl
theorem risesP_short {l : List Pt} (h : l.length ≤ 1) : risesP l = true := by
 match l, h with
 | [], _ => rfl
 | [_], _ => rfl
def notFour : List Int → Nat → Int
 | [], _ => -1
 | a :: l, i => if a = 4 then notFour l (i + 1) else i
theorem notFour_neg (l : List Int) : ∀ i, decide (0 ≤ notFour l i) = !(l.all fun m => decide (m = 4)) := by
 induction l with
 | nil => intro i; rfl
 | cons a l ih =>
   intro i
   by_cases h : a = 4
   ·have e : notFour (a :: l) i = notFour l (i + 1) := if_pos h
    rw [e, ih, List.all_cons, decide_eq_true h, Bool.true_and]
   ·have e : notFour (a :: l) i = (i : Int) := if_neg h
    rw [e, List.all_cons, decide_eq_false h]; simp
end Vm
namespace Vm
def Pt.upTo (p : Pt) (b : Int × Int) : Pt := ((p.line + b.1 + 7) % 7, p.num + b.2 - Pt.num ((p.line + b.1 + 7) % 7, 0, (p.line + b.1 + 7) / 7 - 1), (p.line + b.1 + 7) / 7 - 1)
def Pt.up (p : Pt) (b : Int × Int) : Option Pt := if p.right && decide (0 ≤ p.line + b.1 + 7) && (Pt.upTo p b).right then some (Pt.upTo p b) else none
theorem Pt.ext {p q : Pt} (hp : p.right = true) (hq : q.right = true) (hl : p.line = q.line) (hn : p.num = q.num) : p = q := by
 have a := (Pt.right_iff p).1 hp
 have b := (Pt.right_iff q).1 hq
 obtain ⟨p1, p2, p3⟩ := p
 obtain ⟨q1, q2, q3⟩ := q
 simp only [Pt.line] at hl
 have h1 : p1 = q1 := by simp only at a b; omega
 have h3 : p3 = q3 := by simp only at a b; omega
 subst h1 h3
 simp only [Pt.num] at hn
 have : p2 = q2 := by omega
 rw [this]
end Vm
namespace Vm
theorem one_odd (a : UInt8) (r : List UInt8) (h0 : U.rune (a :: r) ≠ 0) (hx : U.calm ((a :: r).take (U.rune (a :: r))) = false) (h1 : 32 ≤ U.by a) (h2 : U.by a ≠ 127) : False := by
 rcases U.cls_cases a with ⟨h3, e⟩ | ⟨h3, e⟩ | ⟨h3, e⟩ | ⟨h3, e⟩ | ⟨h3, e⟩ | ⟨h3, e⟩ | ⟨h3, e⟩ | ⟨h3, e⟩ | ⟨h3, e⟩
 ·rw [U.rune_low e] at hx
  simp only [List.take_succ_cons, List.take_zero, U.calm, List.all_cons, List.all_nil, Bool.and_true] at hx
  rw [decide_eq_true ⟨h1, h2⟩] at hx; cases hx
 ·exact h0 (U.rune_bad e)
 all_goals
  obtain ⟨d1, d2⟩ := dec_rune (a :: r) h0
  rw [hx] at d2
  match r, h0, hx, d1, d2 with
  | [], h0, hx, d1, d2 => exact h0 (U.rune_short1 e (by decide))
  | b :: r, h0, hx, d1, d2 =>
    first
    | (rw [U.rune_two e] at hx h0
       split at hx
       ·rename_i hc
        rw [U.calm_big (by intro x hx; simp at hx; rcases hx with rfl | rfl <;> omega)] at hx; cases hx
       ·rename_i hc; exact h0 (if_neg hc))
    | (match r, h0, hx, d1, d2 with
       | [], h0, hx, d1, d2 => exact h0 (U.rune_short2 e (by decide) (by decide))
       | c :: r, h0, hx, d1, d2 =>
         first
         | (rw [U.rune_three e] at hx h0
            split at hx
            ·rename_i hc
             have c2 := of_decide_eq_true hc.2
             rw [U.calm_big (by intro x hx; simp at hx; rcases hx with rfl | rfl | rfl <;> omega)] at hx; cases hx
            ·rename_i hc; exact h0 (if_neg hc))
         | (match r, h0, hx, d1, d2 with
            | [], h0, hx, d1, d2 => exact h0 (U.rune_short3 e (by decide) (by decide) (by decide))
            | d :: r, h0, hx, d1, d2 =>
              rw [U.rune_four e] at hx h0
              split at hx
              ·rename_i hc
               have c2 := of_decide_eq_true hc.2.1
               have c3 := of_decide_eq_true hc.2.2
               rw [U.calm_big (by intro x hx; simp at hx; rcases hx with rfl | rfl | rfl | rfl <;> omega)] at hx; cases hx
              ·rename_i hc; exact h0 (if_neg hc)))
end Vm
namespace Vm
end Vm
namespace Vm
abbrev Ev.mk (x : Ev) : List Int := x.2.2.2.2.2.2.2.1
def Ev.okm (x : Ev) : Bool := decide ((Ev.mk x).length < 4611686018427387904)
def Ev.tail (x : Ev) : Bool := x.pitches.all Pt.right && risesP x.pitches
def Ev.shape (x : Ev) : Bool := if x.kind = 0 then decide (x.pitches.length = 0) && (decide (x.word = []) && x.marks.all (fun m => decide (m = 4)))
 else decide (x.kind = 1) && (decide (1 ≤ x.pitches.length) && (decide (x.pitches.length ≤ 8) && Ev.tail x))
theorem Ev.right_eq (x : Ev) : x.right = (x.val.right && (plain x.word && (marked x.marks && (decide (x.ties.length = x.pitches.length) && Ev.shape x)))) := rfl
def firstFour : List Int → Bool
 | [] => true
 | a :: _ => decide (a = 4)
theorem marked_four {l : List Int} (h : marked l = true) : (l.all fun m => decide (m = 4)) = firstFour l := by
 match l, h with
 | [], _ => rfl
 | [a], _ => simp [firstFour]
 | a :: b :: r, h =>
   simp only [marked, risesI, List.all_cons, Bool.and_eq_true, decide_eq_true_eq] at h
   simp only [List.all_cons, firstFour]
   rw [decide_eq_false (p := a = 4) (by omega)]; rfl
end Vm
namespace Vm
def gcdI (a b : Int) : Int := (Nat.gcd a.toNat b.toNat : Nat)
def absI (a : Int) : Int := (a.natAbs : Nat)
def i64B (a : Int) : Bool := decide (-9223372036854775808 ≤ a ∧ a ≤ 9223372036854775807)
def posB (a b : Int) : Bool := decide (0 ≤ a ∧ 0 ≤ b)
end Vm
namespace Vm
def Rt.of (a b : Int) : (Int × Int) × Int :=
 if b = 0 then ((0, 0), 11)
 else if (1000000000 : Int) < (if absI b / gcdI (absI a) (absI b) > absI a / gcdI (absI a) (absI b) then absI b / gcdI (absI a) (absI b) else absI a / gcdI (absI a) (absI b)) then ((0, 0), 10)
 else ((if (decide (a < 0) == decide (b < 0)) = true then absI a / gcdI (absI a) (absI b) else -(absI a / gcdI (absI a) (absI b)), absI b / gcdI (absI a) (absI b)), 0)
end Vm
open Go
namespace Vm
def Ev.withP (x : Ev) (ps : List Pt) : Ev := (x.1, ps, x.2.2.1, x.2.2.2.1, x.2.2.2.2.1, x.2.2.2.2.2.1, x.2.2.2.2.2.2.1, x.2.2.2.2.2.2.2.1, x.2.2.2.2.2.2.2.2)
def zEv : Ev := (0, [], [], 0, 0, 0, 0, [], [])
def upAll (b : Int × Int) : List Pt → Option (List Pt)
 | [] => some []
 | p :: l => match Pt.up p b with
   | none => none
   | some q => match upAll b l with
     | none => none
     | some r => some (q :: r)
def Ev.upTail (x : Ev) (b : Int × Int) (done rest : List Pt) : Ev × Int := match upAll b rest with
    | none => (zEv, 20)
    | some ps => if (x.withP (done ++ ps)).right then (x.withP (done ++ ps), 0) else (zEv, 60)
def Ev.up (x : Ev) (b : Int × Int) : Ev × Int := if x.right then Ev.upTail x b [] x.2.1 else (zEv, 60)
def Vl.len (v : Vl) : (Int × Int) × Int := if v.right then
    (if 0 < v.2.2.1 then Rt.of ((if v.2.1 = 0 then 1 else if v.2.1 = 1 then 3 else 7) * v.2.2.2) ((if v.2.1 = 0 then 1 else if v.2.1 = 1 then 2 else 4) * 2 ^ v.1.toNat * v.2.2.1)
     else Rt.of (if v.2.1 = 0 then 1 else if v.2.1 = 1 then 3 else 7) ((if v.2.1 = 0 then 1 else if v.2.1 = 1 then 2 else 4) * 2 ^ v.1.toNat)) else ((0, 0), 40)
end Vm
namespace Vm
theorem Ev.small_of {x : Ev} (h1 : x.2.1.length ≤ 1000) (h2 : x.2.2.1.length ≤ 1000) (h3 : x.2.2.2.2.2.2.2.1.length ≤ 1000) : Ev.small x = true := by
 simp only [Ev.small, Bool.and_eq_true, decide_eq_true_eq]; omega
theorem plain_nil : plain [] = true := by unfold plain; rw [U.valid_nil]; rfl
end Vm
open Go
namespace Vm
def Rt.right (a : Int × Int) : Bool := decide (1 ≤ a.2) && (decide (absI a.1 ≤ 1000000000) && (decide (a.2 ≤ 1000000000) && decide (gcdI (absI a.1) (absI a.2) = 1)))
def Rt.i64 (a : Int × Int) : Bool := i64B a.1 && i64B a.2
theorem Rt.right_iff (a : Int × Int) : Rt.right a = true ↔ (1 ≤ a.2 ∧ absI a.1 ≤ 1000000000 ∧ a.2 ≤ 1000000000 ∧ gcdI (absI a.1) (absI a.2) = 1) := by simp [Rt.right]
def Rt.add (a b : Int × Int) : (Int × Int) × Int := if Rt.right a && Rt.right b then Rt.of (a.1 * b.2 + b.1 * a.2) (a.2 * b.2) else ((0, 0), 10)
def Rt.sub (a b : Int × Int) : (Int × Int) × Int := if Rt.right a && Rt.right b then Rt.of (a.1 * b.2 - b.1 * a.2) (a.2 * b.2) else ((0, 0), 10)
def Rt.cmp (a b : Int × Int) : Int := if Rt.right a && Rt.right b then sgn (a.1 * b.2) (b.1 * a.2) else 0
end Vm
namespace Vm
abbrev beqP : Pt → Pt → Bool := (Ks.cons (K.int IntKind.i64) (Ks.cons (K.int IntKind.i64) (Ks.cons (K.int IntKind.i64) Ks.nil))).beq
theorem beqP_eq (p q : Pt) : beqP p q = decide (p = q) := by
 obtain ⟨a, b, c⟩ := p
 obtain ⟨d, e, f⟩ := q
 show (decide (a = d) && (decide (b = e) && decide (c = f))) = _
 by_cases h1 : a = d <;> by_cases h2 : b = e <;> by_cases h3 : c = f <;> simp [h1, h2, h3]
def tieRun : List Pt → List Bool → List (Pt × Bool) → List (Pt × Bool)
 | p :: ps, t :: ts, es => tieRun ps ts (bif t then setKey beqP p true es else es)
 | _, _, es => es
def Ev.tm (e : Ev) : List (Pt × Bool) := tieRun e.pitches e.ties []
def tiedIn : List Pt → List Bool → Pt → Bool
 | p :: ps, t :: ts, q => (t && decide (q = p)) || tiedIn ps ts q
 | _, _, _ => false
def Ev.tied (e : Ev) (q : Pt) : Bool := tiedIn e.pitches e.ties q
def Ev.len (e : Ev) : (Int × Int) × Int := if e.right then Vl.len e.val else ((0, 0), 60)
end Vm
open Go
namespace Vm
abbrev Vo := List Ev
def badI : List Ev → Nat → Int
 | [], _ => -1
 | e :: l, i => if e.right then badI l (i + 1) else i
def Vo.ok (l : List Ev) : Bool := decide (l.length < 4611686018427387904) && l.all Ev.okm
def joined (a b : Ev) : Bool := a.tm.all fun y => b.pitches.contains y.1
def tieI : List Ev → Nat → Int
 | a :: b :: r, i => if joined a b then tieI (b :: r) (i + 1) else i
 | _, _ => -1
def Vo.chk (l : Vo) : Int × Int := if 64 < l.length then (64, 70) else if 0 ≤ badI l 0 then (badI l 0, 60) else if 0 ≤ tieI l 0 then (tieI l 0, 71) else (0, 0)
def sumsF (t : Int × Int) : List Ev → List (Int × Int) × Int
 | [] => ([], 0)
 | e :: r => if (Rt.add t (Ev.len e).1).2 = 0 then (if (sumsF (Rt.add t (Ev.len e).1).1 r).2 = 0 then ((Rt.add t (Ev.len e).1).1 :: (sumsF (Rt.add t (Ev.len e).1).1 r).1, 0) else ([], (sumsF (Rt.add t (Ev.len e).1).1 r).2)) else ([], (Rt.add t (Ev.len e).1).2)
def Vo.sums (l : Vo) : List (Int × Int) × Int := if (Vo.chk l).2 = 0 then (if (sumsF (0, 1) l).2 = 0 then ((0, 1) :: (sumsF (0, 1) l).1, 0) else ([], (sumsF (0, 1) l).2)) else ([], (Vo.chk l).2)
def Vo.len (l : Vo) : (Int × Int) × Int := if (Vo.sums l).2 = 0 then ((Vo.sums l).1[l.length]?.getD (0, 0), 0) else ((0, 0), (Vo.sums l).2)
def atI (t : Int × Int) : List (Int × Int) → Nat → Int × Bool
 | a :: b :: r, i => if Rt.cmp a t ≤ 0 then (if Rt.cmp t b < 0 then (i, true) else atI t (b :: r) (i + 1)) else atI t (b :: r) (i + 1)
 | _, _ => (0, false)
def Vo.at (l : Vo) (t : Int × Int) : Int × Bool := if (Vo.sums l).2 = 0 then (if Rt.right t then atI t (Vo.sums l).1 0 else (0, false)) else (0, false)
abbrev Me := Int × Int × List Int
def grpLeft (n : Int) : List Int → Option Int
 | [] => some n
 | g :: r => if g < 1 then none else if n < g then none else grpLeft (n - g) r
def Me.pow (d : Int) : Bool := decide (bitop BinOp.and IntKind.i64 d (IntKind.i64.wrap (d - 1)) = 0)
def Me.right (m : Me) : Bool := if m.1 < 1 then false else if 32 < m.1 then false else if m.2.1 < 1 then false else if 64 < m.2.1 then false else if Me.pow m.2.1 then (match grpLeft m.1 m.2.2 with
 | none => false
 | some n => decide (n = 0) || decide (m.2.2.length = 0)) else false
def Me.len (m : Me) : (Int × Int) × Int := if m.right then Rt.of m.1 m.2.1 else ((0, 0), 50)
end Vm
open Go
namespace Vm
def posW (p : Pt) : List Pt → Nat
 | [] => 0
 | q :: r => if Pt.cmp q p < 0 then posW p r + 1 else 0
def insW (p : Pt) (ps : List Pt) : List Pt := ps.take (posW p ps) ++ [p] ++ ps.drop (posW p ps)
end Vm
open Go
namespace Vm
abbrev Mk := Option (List Pt × List Bool)
def Mk.ok (m : Nat) : Mk → Prop
 | none => True
 | some (ps, ts) => ps ≠ [] ∧ ts.length = ps.length ∧ ps.length ≤ m
end Vm
open Go
namespace Vm
def Ev.few (e : Ev) : Prop := e.pitches.length = e.ties.length ∧ e.ties.length ≤ 800 ∧ (Ev.mk e).length ≤ 1 ∧ 1 ≤ e.val.1 ∧ e.val.1 ≤ 4
end Vm
open Go
namespace Vm
def insR (p : Pt) : List Pt → List Pt
 | [] => [p]
 | q :: r => if Pt.cmp q p < 0 then q :: insR p r else p :: q :: r
theorem insW_cons (p q : Pt) (r : List Pt) : insW p (q :: r) = if Pt.cmp q p < 0 then q :: insW p r else p :: q :: r := by
 unfold insW
 rw [posW]
 by_cases h : Pt.cmp q p < 0
 ·rw [if_pos h, if_pos h]; rfl
 ·rw [if_neg h, if_neg h]; rfl
theorem insW_eq (p : Pt) : ∀ ps, insW p ps = insR p ps
 | [] => rfl
 | q :: r => by rw [insW_cons, insR, insW_eq p r]
def ltP (a b : Pt) : Prop := a.num < b.num ∨ (a.num = b.num ∧ a.line < b.line)
theorem cmp_lt {a b : Pt} (ha : a.right = true) (hb : b.right = true) : Pt.cmp a b < 0 ↔ ltP a b := by
 unfold Pt.cmp ltP sgn
 rw [ha, hb]
 simp only [Bool.and_self, if_true]
 repeat' split
 all_goals omega
theorem cmp_gt {a b : Pt} (ha : a.right = true) (hb : b.right = true) : Pt.cmp a b > 0 ↔ ltP b a := by
 unfold Pt.cmp ltP sgn
 rw [ha, hb]
 simp only [Bool.and_self, if_true]
 repeat' split
 all_goals omega
theorem ltP_or {a b : Pt} (ha : a.right = true) (hb : b.right = true) (h1 : ¬ ltP a b) (h2 : ¬ ltP b a) : a = b := by
 unfold ltP at h1 h2
 exact Pt.ext ha hb (by omega) (by omega)
theorem ltP_trans {a b c : Pt} (h1 : ltP a b) (h2 : ltP b c) : ltP a c := by
 unfold ltP at *
 omega
theorem insW_mem (p x : Pt) (ps : List Pt) : x ∈ insW p ps ↔ x = p ∨ x ∈ ps := by
 unfold insW
 rw [List.mem_append, List.mem_append, List.mem_singleton]
 constructor
 ·rintro ((h | h) | h)
  ·exact .inr (List.mem_of_mem_take h)
  ·exact .inl h
  ·exact .inr (List.mem_of_mem_drop h)
 ·rintro (h | h)
  ·exact .inl (.inr h)
  ·have := List.take_append_drop (posW p ps) ps
   rw [← this, List.mem_append] at h
   exact h.imp .inl id
theorem risesP_ins {p : Pt} (hp : p.right = true) : ∀ {ps : List Pt}, (∀ q ∈ ps, q.right = true) → p ∉ ps → risesP ps = true → risesP (insR p ps) = true
 | [], _, _, _ => rfl
 | [q], hr, hn, _ => by
   have hq := hr q (by simp)
   simp only [insR]
   split
   ·rename_i h
    rw [cmp_lt hq hp] at h
    simp only [risesP, Bool.and_true, decide_eq_true_eq]
    exact (cmp_gt hp hq).2 h
   ·rename_i h
    rw [cmp_lt hq hp] at h
    simp only [risesP, Bool.and_true, decide_eq_true_eq]
    refine (cmp_gt hq hp).2 ?_
    by_cases h2 : ltP p q
    ·exact h2
    ·exact absurd (ltP_or hp hq h2 h) (fun e => hn (by simp [e]))
 | q :: s :: r, hr, hn, hs => by
   have hq := hr q (by simp)
   have hss := hr s (by simp)
   simp only [risesP, Bool.and_eq_true, decide_eq_true_eq] at hs
   have ih := risesP_ins hp (ps := s :: r) (fun x hx => hr x (List.mem_cons_of_mem _ hx)) (fun h => hn (List.mem_cons_of_mem _ h)) hs.2
   simp only [insR]
   split
   ·rename_i h
    have h' := (cmp_lt hq hp).1 h
    simp only [insR] at ih
    split
    ·rename_i h2
     rw [if_pos h2] at ih
     simp only [risesP, Bool.and_eq_true, decide_eq_true_eq]
     exact ⟨hs.1, ih⟩
    ·rename_i h2
     rw [if_neg h2] at ih
     simp only [risesP, Bool.and_eq_true, decide_eq_true_eq] at ih ⊢
     exact ⟨(cmp_gt hp hq).2 h', ih⟩
   ·rename_i h
    rw [cmp_lt hq hp] at h
    simp only [risesP, Bool.and_eq_true, decide_eq_true_eq]
    refine ⟨(cmp_gt hq hp).2 ?_, hs⟩
    by_cases h2 : ltP p q
    ·exact h2
    ·exact absurd (ltP_or hp hq h2 h) (fun e => hn (by simp [e]))
theorem risesP_lt {q : Pt} : ∀ {r : List Pt}, (∀ x ∈ q :: r, x.right = true) → risesP (q :: r) = true → ∀ x ∈ r, ltP q x
 | [], _, _, x, hx => by cases hx
 | s :: r, hr, hs, x, hx => by
   simp only [risesP, Bool.and_eq_true, decide_eq_true_eq] at hs
   have h1 := (cmp_gt (hr s (by simp)) (hr q (by simp))).1 hs.1
   rcases List.mem_cons.1 hx with rfl | hx
   ·exact h1
   ·exact ltP_trans h1 (risesP_lt (fun y hy => hr y (List.mem_cons_of_mem _ hy)) hs.2 x hx)
theorem ltP_irrefl (p : Pt) : ¬ ltP p p := by unfold ltP; omega
theorem risesP_tail {q : Pt} {r : List Pt} (h : risesP (q :: r) = true) : risesP r = true := by
 cases r with
 | nil => rfl
 | cons s r => simp only [risesP, Bool.and_eq_true] at h; exact h.2
end Vm
namespace Vm
variable {α : Type}
section
variable (lt : α → α → Bool)
structure Weak (lt : α → α → Bool) : Prop where
 irrefl : ∀ x, lt x x = false
 trans : ∀ x y z, lt x y = true → lt y z = true → lt x z = true
 ntrans : ∀ x y z, lt x y = false → lt y z = false → lt x z = false
def eqv (x y : α) : Bool := !lt x y && !lt y x
def Asc (l : List α) : Prop := l.Pairwise (fun x y => lt y x = false)
def SP (l l' : List α) : Prop := l'.Perm l ∧ ∀ x, l'.filter (eqv lt x) = l.filter (eqv lt x)
theorem SP.refl (l : List α) : SP lt l l := ⟨.refl _, fun _ => rfl⟩
variable {lt}
theorem SP.trans {a b c : List α} (h1 : SP lt a b) (h2 : SP lt b c) : SP lt a c := ⟨h2.1.trans h1.1, fun x => (h2.2 x).trans (h1.2 x)⟩
theorem SP.append {a a' b b' : List α} (h1 : SP lt a a') (h2 : SP lt b b') : SP lt (a ++ b) (a' ++ b') :=
 ⟨h1.1.append h2.1, fun x => by rw [List.filter_append, List.filter_append, h1.2, h2.2]⟩
theorem SP.mem {a b : List α} (h : SP lt a b) {x : α} : x ∈ b ↔ x ∈ a := h.1.mem_iff
theorem SP.len {a b : List α} (h : SP lt a b) : b.length = a.length := h.1.length_eq
theorem Weak.lt_of_lt_of_le (W : Weak lt) {x y z : α} (h : lt x y = true) (h2 : lt z y = false) : lt x z = true := by
 cases hc : lt x z with
 | true => rfl
 | false =>
   have := W.ntrans x z y hc h2
   rw [h] at this; cases this
theorem SP.turn (W : Weak lt) {u v : List α} (h : ∀ x ∈ u, ∀ y ∈ v, lt y x = true) : SP lt (u ++ v) (v ++ u) := by
 refine ⟨List.perm_append_comm, fun z => ?_⟩
 rw [List.filter_append, List.filter_append]
 by_cases hu : u.filter (eqv lt z) = []
 ·rw [hu]; simp
 ·have hv : v.filter (eqv lt z) = [] := by
    rw [List.filter_eq_nil_iff]
    intro y hy hc
    obtain ⟨x, hx⟩ := List.exists_mem_of_ne_nil _ hu
    have hx2 := List.mem_filter.1 hx
    have h1 := h x hx2.1 y hy
    simp only [eqv, Bool.and_eq_true, Bool.not_eq_true'] at hc hx2
    have := W.ntrans y z x hc.2 hx2.2.1
    rw [h1] at this; cases this
  rw [hv]; simp
end
section
variable (lt : α → α → Bool)
variable {lt}
end
end Vm
namespace Vm
variable {α : Type}
section
variable (lt : α → α → Bool)
variable {lt}
inductive Chunks (lt : α → α → Bool) (bs : Nat) : List α → Prop
 | last {s : List α} : s.length ≤ bs → Asc lt s → Chunks lt bs s
 | more {u s : List α} : u.length = bs → Asc lt u → Chunks lt bs s → Chunks lt bs (u ++ s)
theorem Chunks.split {bs : Nat} {s : List α} (h : Chunks lt bs s) (hl : bs ≤ s.length) : ∃ v t, s = v ++ t ∧ v.length = bs ∧ Asc lt v ∧ Chunks lt bs t := by
 cases h with
 | last h1 h2 => exact ⟨s, [], by simp, by omega, h2, .last (Nat.zero_le _) List.Pairwise.nil⟩
 | more h1 h2 h3 => exact ⟨_, _, rfl, h1, h2, h3⟩
end
end Vm
namespace Vm
variable {α β : Type}
def arL (enc : α → β) (d : Array α) : List β := d.toList.map enc
theorem arL_len (enc : α → β) (d : Array α) : (arL enc d).length = d.size := by simp [arL]
theorem arL_get [Inhabited α] (enc : α → β) (d : Array α) {i : Nat} (h : i < d.size) : (arL enc d)[i]? = some (enc d[i]!) := by
 unfold arL
 rw [List.getElem?_map, Array.getElem?_toList, Array.getElem?_eq_getElem h, getElem!_pos d i h]
 rfl
theorem arL_set (enc : α → β) (d : Array α) (i : Nat) (x : α) : (arL enc d).set i (enc x) = arL enc (d.setIfInBounds i x) := by
 unfold arL
 rw [Array.toList_setIfInBounds, List.map_set]
theorem arL_swp [Inhabited α] (enc : α → β) (d : Array α) (i j : Nat) : ((arL enc d).set i (enc d[j]!)).set j (enc d[i]!) = arL enc (Go.Sort.swp d i j) := by
 rw [arL_set, arL_set]; rfl
theorem swp_size [Inhabited α] (d : Array α) (i j : Nat) : (Go.Sort.swp d i j).size = d.size := by simp [Go.Sort.swp]
section
variable (lt : α → α → Bool)
theorem insInner_size [Inhabited α] (a : Nat) : ∀ (j : Nat) (d : Array α), (Go.Sort.insInner lt a j d).size = d.size
 | 0, d => rfl
 | j + 1, d => by
   rw [Go.Sort.insInner]
   split
   ·rw [insInner_size a j, swp_size]
   ·rfl
end
end Vm
open Go
namespace Vm
def len8tab : List UInt8 := [0, 1, 2, 2, 3, 3, 3, 3, 4, 4, 4, 4, 4, 4, 4, 4, 5, 5, 5, 5, 5, 5, 5, 5, 5, 5, 5, 5, 5, 5, 5, 5, 6, 6, 6, 6, 6, 6, 6, 6, 6, 6, 6, 6, 6, 6, 6, 6, 6, 6, 6, 6, 6, 6, 6, 6, 6, 6, 6, 6, 6, 6, 6, 6, 7, 7, 7, 7, 7, 7, 7, 7, 7, 7, 7, 7, 7, 7, 7, 7, 7, 7, 7, 7, 7, 7, 7, 7, 7, 7, 7, 7, 7, 7, 7, 7, 7, 7, 7, 7, 7, 7, 7, 7, 7, 7, 7, 7, 7, 7, 7, 7, 7, 7, 7, 7, 7, 7, 7, 7, 7, 7, 7, 7, 7, 7, 7, 7, 8, 8, 8, 8, 8, 8, 8, 8, 8, 8, 8, 8, 8, 8, 8, 8, 8, 8, 8, 8, 8, 8, 8, 8, 8, 8, 8, 8, 8, 8, 8, 8, 8, 8, 8, 8, 8, 8, 8, 8, 8, 8, 8, 8, 8, 8, 8, 8, 8, 8, 8, 8, 8, 8, 8, 8, 8, 8, 8, 8, 8, 8, 8, 8, 8, 8, 8, 8, 8, 8, 8, 8, 8, 8, 8, 8, 8, 8, 8, 8, 8, 8, 8, 8, 8, 8, 8, 8, 8, 8, 8, 8, 8, 8, 8, 8, 8, 8, 8, 8, 8, 8, 8, 8, 8, 8, 8, 8, 8, 8, 8, 8, 8, 8, 8, 8, 8, 8, 8, 8, 8, 8, 8, 8, 8, 8, 8, 8]
theorem len8_get : ∀ n : Nat, n < 256 → len8tab[n]? = some (UInt8.ofNat (Go.Sort.bitsLen n)) ∧ Go.Sort.bitsLen n ≤ 8 := by decide +kernel
end Vm
open Go
namespace Vm
theorem ltP_asymm {a b : Pt} (h : ltP a b) : ¬ ltP b a := by unfold ltP at *; omega
theorem rises_unique : ∀ (a b : List Pt), (∀ x ∈ a, x.right = true) → (∀ x ∈ b, x.right = true) → risesP a = true → risesP b = true → (∀ x, x ∈ a ↔ x ∈ b) → a = b
 | [], [], _, _, _, _, _ => rfl
 | [], y :: b, _, _, _, _, h => absurd ((h y).2 (by simp)) (by simp)
 | x :: a, [], _, _, _, _, h => absurd ((h x).1 (by simp)) (by simp)
 | x :: a, y :: b, ha, hb, ra, rb, h => by
   have la := risesP_lt ha ra
   have lb := risesP_lt hb rb
   have e : x = y := by
    have h1 := (h x).1 (by simp)
    have h2 := (h y).2 (by simp)
    rcases List.mem_cons.1 h1 with e | h1
    ·exact e
    ·rcases List.mem_cons.1 h2 with e | h2
     ·exact e.symm
     ·exact absurd (la y h2) (ltP_asymm (lb x h1))
   subst e
   congr 1
   refine rises_unique a b (fun z hz => ha z (List.mem_cons_of_mem _ hz)) (fun z hz => hb z (List.mem_cons_of_mem _ hz)) (risesP_tail ra) (risesP_tail rb) fun z => ⟨fun hz => ?_, fun hz => ?_⟩
   ·rcases List.mem_cons.1 ((h z).1 (List.mem_cons_of_mem _ hz)) with e | h1
    ·subst e; exact absurd (la z hz) (ltP_irrefl z)
    ·exact h1
   ·rcases List.mem_cons.1 ((h z).2 (List.mem_cons_of_mem _ hz)) with e | h1
    ·subst e; exact absurd (lb z hz) (ltP_irrefl z)
    ·exact h1
def ordP : List Pt → List Pt
 | [] => []
 | p :: ps => if p ∈ ordP ps then ordP ps else insR p (ordP ps)
theorem insR_mem (p x : Pt) (ps : List Pt) : x ∈ insR p ps ↔ x = p ∨ x ∈ ps := by rw [← insW_eq]; exact insW_mem p x ps
theorem ordP_mem (x : Pt) : ∀ ps : List Pt, x ∈ ordP ps ↔ x ∈ ps
 | [] => Iff.rfl
 | p :: ps => by
   have ih := ordP_mem x ps
   simp only [ordP]
   split
   ·rename_i h
    rw [ih, List.mem_cons]
    refine ⟨.inr, fun hh => hh.elim (fun e => ?_) id⟩
    subst e; exact ih.1 h
   ·rw [insR_mem, ih, List.mem_cons]
theorem ordP_rises : ∀ {ps : List Pt}, (∀ p ∈ ps, p.right = true) → risesP (ordP ps) = true
 | [], _ => rfl
 | p :: ps, h => by
   have ih := ordP_rises (ps := ps) (fun q hq => h q (List.mem_cons_of_mem _ hq))
   simp only [ordP]
   split
   ·exact ih
   ·rename_i hn
    exact risesP_ins (h p (by simp)) (fun q hq => h q (List.mem_cons_of_mem _ ((ordP_mem q ps).1 hq))) hn ih
theorem ordP_right {ps : List Pt} (h : ∀ p ∈ ps, p.right = true) : ∀ p ∈ ordP ps, p.right = true := fun p hp => h p ((ordP_mem p ps).1 hp)
theorem ordP_congr {ps qs : List Pt} (h : ∀ p ∈ ps, p.right = true) (hm : ∀ x, x ∈ ps ↔ x ∈ qs) : ordP ps = ordP qs :=
 rises_unique _ _ (ordP_right h) (ordP_right fun p hp => h p ((hm p).2 hp)) (ordP_rises h) (ordP_rises fun p hp => h p ((hm p).2 hp)) fun x => by rw [ordP_mem, ordP_mem, hm]
def ordM (ms : List Int) : List Int := [1, 2, 3, 4].filter fun m => ms.contains m
theorem ordM_mem {x : Int} {ms : List Int} (h : ∀ m ∈ ms, 1 ≤ m ∧ m ≤ 4) : x ∈ ordM ms ↔ x ∈ ms := by
 unfold ordM
 rw [List.mem_filter, List.contains_iff_mem]
 refine ⟨fun hh => hh.2, fun hh => ⟨?_, hh⟩⟩
 have := h x hh
 simp only [List.mem_cons, List.not_mem_nil, or_false]
 omega
theorem risesI_lt {a : Int} : ∀ {l : List Int}, risesI (a :: l) = true → ∀ x ∈ l, a < x
 | [], _, x, hx => by cases hx
 | b :: l, h, x, hx => by
   simp only [risesI, Bool.and_eq_true, decide_eq_true_eq] at h
   rcases List.mem_cons.1 hx with rfl | hx
   ·exact h.1
   ·have := risesI_lt h.2 x hx; omega
theorem risesI_tail {a : Int} {l : List Int} (h : risesI (a :: l) = true) : risesI l = true := by
 cases l with
 | nil => rfl
 | cons b l => simp only [risesI, Bool.and_eq_true] at h; exact h.2
theorem marks_unique : ∀ (a b : List Int), risesI a = true → risesI b = true → (∀ x, x ∈ a ↔ x ∈ b) → a = b
 | [], [], _, _, _ => rfl
 | [], y :: b, _, _, h => absurd ((h y).2 (by simp)) (by simp)
 | x :: a, [], _, _, h => absurd ((h x).1 (by simp)) (by simp)
 | x :: a, y :: b, ra, rb, h => by
   have la := risesI_lt ra
   have lb := risesI_lt rb
   have e : x = y := by
    have h1 := (h x).1 (by simp)
    have h2 := (h y).2 (by simp)
    rcases List.mem_cons.1 h1 with e | h1
    ·exact e
    ·rcases List.mem_cons.1 h2 with e | h2
     ·exact e.symm
     ·have := la y h2; have := lb x h1; omega
   subst e
   congr 1
   refine marks_unique a b (risesI_tail ra) (risesI_tail rb) fun z => ⟨fun hz => ?_, fun hz => ?_⟩
   ·rcases List.mem_cons.1 ((h z).1 (List.mem_cons_of_mem _ hz)) with e | h1
    ·subst e; have := la z hz; omega
    ·exact h1
   ·rcases List.mem_cons.1 ((h z).2 (List.mem_cons_of_mem _ hz)) with e | h1
    ·subst e; have := lb z hz; omega
    ·exact h1
theorem ordM_rises (ms : List Int) : risesI (ordM ms) = true := by
 unfold ordM
 simp only [List.filter_cons, List.filter_nil]
 repeat' split
 all_goals rfl
theorem ordM_self {ms : List Int} (h : ∀ m ∈ ms, 1 ≤ m ∧ m ≤ 4) (hr : risesI ms = true) : ordM ms = ms :=
 marks_unique _ _ (ordM_rises ms) hr fun x => ordM_mem h
def chWord : List Ev → List UInt8
 | [] => []
 | e :: r => if e.word = [] then chWord r else e.word
def chPs (l : List Ev) : List Pt := ordP (l.flatMap Ev.pitches)
def chTies (l : List Ev) : List Bool := (chPs l).map fun p => l.any fun e => e.tied p
def chMs (l : List Ev) : List Int := ordM (l.flatMap Ev.marks)
def chEv (v : Vl) (l : List Ev) : Ev := (if chPs l = [] then 0 else 1, chPs l, chTies l, v.1, v.2.1, v.2.2.1, v.2.2.2, chMs l, chWord l)
def chordS (l : List Ev) : Ev × Int := match l with
 | [] => (zEv, 2)
 | a :: r => if (a :: r).all Ev.right then (if (a :: r).all (fun e => decide (e.val = a.val)) then (if (chEv a.val (a :: r)).right then (chEv a.val (a :: r), 0) else (zEv, 60)) else (zEv, 2)) else (zEv, 60)
end Vm
open Go
namespace Vm
theorem rises_nodup : ∀ {ps : List Pt}, (∀ p ∈ ps, p.right = true) → risesP ps = true → ps.Nodup
 | [], _, _ => List.nodup_nil
 | q :: r, h, hs => List.nodup_cons.2 ⟨fun hm => ltP_irrefl q (risesP_lt h hs q hm), rises_nodup (fun p hp => h p (List.mem_cons_of_mem _ hp)) (risesP_tail hs)⟩
structure Ev.sound (e : Ev) : Prop where
 pr : ∀ p ∈ e.pitches, p.right = true
 rise : risesP e.pitches = true
 len : e.ties.length = e.pitches.length
 few : e.pitches.length ≤ 8
 mks : ∀ m ∈ e.marks, 1 ≤ m ∧ m ≤ 4
 mrise : risesI e.marks = true
 val : e.val.right = true
 word : plain e.word = true
 kind : e.kind = if e.pitches = [] then 0 else 1
 rest : e.pitches = [] → e.word = [] ∧ ∀ m ∈ e.marks, m = 4
theorem Ev.right_sound {e : Ev} (h : e.right = true) : e.sound := by
 rw [Ev.right_eq] at h
 simp only [Bool.and_eq_true, decide_eq_true_eq, marked] at h
 obtain ⟨h1, h2, ⟨h3, h4⟩, h5, h6⟩ := h
 have hm : ∀ m ∈ e.marks, 1 ≤ m ∧ m ≤ 4 := fun m hm => of_decide_eq_true (List.all_eq_true.1 h3 m hm)
 unfold Ev.shape at h6
 split at h6
 ·rename_i hk
  simp only [Bool.and_eq_true, decide_eq_true_eq] at h6
  have e0 : e.pitches = [] := List.eq_nil_of_length_eq_zero h6.1
  exact ⟨by rw [e0]; simp, by rw [e0]; rfl, h5, by rw [e0]; decide, hm, h4, h1, h2, by rw [if_pos e0]; exact hk, fun _ => ⟨h6.2.1, fun m hm => of_decide_eq_true (List.all_eq_true.1 h6.2.2 m hm)⟩⟩
 ·simp only [Bool.and_eq_true, decide_eq_true_eq, Ev.tail] at h6
  have e0 : e.pitches ≠ [] := fun e0 => by rw [e0] at h6; exact absurd h6.2.1 (by decide)
  exact ⟨fun p hp => List.all_eq_true.1 h6.2.2.2.1 p hp, h6.2.2.2.2, h5, h6.2.2.1, hm, h4, h1, h2, by rw [if_neg e0]; exact h6.1, fun e1 => absurd e1 e0⟩
theorem Ev.sound_right {e : Ev} (h : e.sound) : e.right = true := by
 rw [Ev.right_eq]
 simp only [Bool.and_eq_true, decide_eq_true_eq, marked]
 refine ⟨h.val, h.word, ⟨List.all_eq_true.2 fun m hm => decide_eq_true (h.mks m hm), h.mrise⟩, h.len, ?_⟩
 unfold Ev.shape
 have hk := h.kind
 by_cases e0 : e.pitches = []
 ·rw [if_pos e0] at hk
  rw [if_pos hk, e0, decide_eq_true (h.rest e0).1, List.all_eq_true.2 (fun m hm => decide_eq_true ((h.rest e0).2 m hm))]
  rfl
 ·rw [if_neg e0] at hk
  have hl : 1 ≤ e.pitches.length := List.length_pos_iff.2 e0
  rw [if_neg (by rw [hk]; decide), decide_eq_true hk, decide_eq_true hl, decide_eq_true h.few]
  unfold Ev.tail
  rw [List.all_eq_true.2 h.pr, h.rise]
  rfl
theorem Ev.sound.nodup {e : Ev} (h : e.sound) : e.pitches.Nodup := rises_nodup h.pr h.rise
theorem chordS_wrong {l : List Ev} (hl : l ≠ []) (h : l.all Ev.right = false) : chordS l = (zEv, 60) := by
 cases l with
 | nil => exact absurd rfl hl
 | cons a r => unfold chordS; dsimp only; rw [h, if_neg (by decide)]
end Vm
open Go
namespace Vm
abbrev RtP := {p : Pt // p.right = true}
instance : Inhabited RtP := ⟨⟨(0, 0, 4), by decide⟩⟩
def ltR (a b : RtP) : Bool := decide (Pt.cmp a.1 b.1 < 0)
theorem ltR_iff (a b : RtP) : ltR a b = true ↔ ltP a.1 b.1 := by
 unfold ltR
 rw [decide_eq_true_eq]
 exact cmp_lt a.2 b.2
theorem ltR_false (a b : RtP) : ltR a b = false ↔ ¬ ltP a.1 b.1 := by rw [← ltR_iff, Bool.not_eq_true]
theorem ltR_swo : Go.Sort.SWO ltR where
 irrefl := fun a => (ltR_false a a).2 (ltP_irrefl _)
 trans := fun a b c h1 h2 => (ltR_iff a c).2 (ltP_trans ((ltR_iff a b).1 h1) ((ltR_iff b c).1 h2))
 ntrans := fun a b c h1 h2 => by
  rw [ltR_false] at h1 h2 ⊢
  unfold ltP at *
  omega
def liftR (l : List Pt) : Array RtP := (l.filterMap fun p => if h : p.right = true then some ⟨p, h⟩ else none).toArray
theorem liftR_val {l : List Pt} (h : ∀ p ∈ l, p.right = true) : arL Subtype.val (liftR l) = l := by
 unfold arL liftR
 simp only
 induction l with
 | nil => rfl
 | cons p r ih =>
   have hp := h p (by simp)
   rw [List.filterMap_cons_some (b := ⟨p, hp⟩) (by rw [dif_pos hp]), List.map_cons, ih fun q hq => h q (List.mem_cons_of_mem _ hq)]
theorem liftR_arL (d : Array RtP) : liftR (arL Subtype.val d) = d := by
 unfold arL liftR
 have key : ∀ l : List RtP, ((l.map Subtype.val).filterMap fun p => if h : p.right = true then some (⟨p, h⟩ : RtP) else none) = l := by
  intro l
  induction l with
  | nil => rfl
  | cons p r ih => rw [List.map_cons, List.filterMap_cons_some (b := p) (by rw [dif_pos p.2]), ih]
 rw [key]
def sortR (l : List Pt) : List Pt := arL Subtype.val (Go.Sort.sort ltR (liftR l))
theorem permIn_perm {α : Type} [Inhabited α] {d d' : Array α} (h : Go.Sort.PermIn 0 d.size d d') : d'.toList.Perm d.toList := by
 obtain ⟨h1, _, h3⟩ := h
 have e1 : (d.extract 0 d.size).toList = d.toList := by simp
 have e2 : (d'.extract 0 d.size).toList = d'.toList := by rw [← h1]; simp
 rw [e1, e2] at h3
 exact h3
theorem sortR_perm {l : List Pt} (h : ∀ p ∈ l, p.right = true) : (sortR l).Perm l := by
 have hs := (Go.Sort.sort_sorts ltR ltR_swo (liftR l)).1
 have := (permIn_perm hs).map Subtype.val
 have e : (liftR l).toList.map Subtype.val = l := liftR_val h
 rw [e] at this
 exact this
theorem rises_of : ∀ (l : List Pt), (∀ p ∈ l, p.right = true) → l.Pairwise (fun a b => ¬ ltP b a) → l.Nodup → risesP l = true
 | [], _, _, _ => rfl
 | [p], _, _, _ => rfl
 | p :: q :: r, h, hs, hn => by
   have h1 := List.pairwise_cons.1 hs
   have h2 := List.nodup_cons.1 hn
   simp only [risesP, Bool.and_eq_true, decide_eq_true_eq]
   refine ⟨(cmp_gt (h q (by simp)) (h p (by simp))).2 ?_, rises_of (q :: r) (fun x hx => h x (List.mem_cons_of_mem _ hx)) h1.2 h2.2⟩
   by_cases hc : ltP p q
   ·exact hc
   ·exact absurd (ltP_or (h p (by simp)) (h q (by simp)) hc (h1.1 q (by simp))) (fun e => h2.1 (by rw [e]; simp))
theorem sortR_ord {l : List Pt} (h : ∀ p ∈ l, p.right = true) (hn : l.Nodup) : sortR l = ordP l := by
 have hp := sortR_perm h
 have hr : ∀ p ∈ sortR l, p.right = true := fun p hm => h p (hp.mem_iff.1 hm)
 have hs : (sortR l).Pairwise (fun a b => ¬ ltP b a) := by
  unfold sortR arL
  rw [List.pairwise_map, List.pairwise_iff_getElem]
  intro i j hi hj hij
  have hq := (Go.Sort.sort_sorts ltR ltR_swo (liftR l))
  have h2 := hq.2 i j (Nat.zero_le _) hij (by rw [← hq.1.1]; simpa using hj)
  rw [ltR_false] at h2
  rw [getElem!_pos _ i (by simpa using hi), getElem!_pos _ j (by simpa using hj)] at h2
  simpa using h2
 exact rises_unique _ _ hr (ordP_right h) (rises_of _ hr hs (hp.nodup_iff.2 hn)) (ordP_rises h) fun x => by rw [hp.mem_iff, ordP_mem]
def sortI (l : List Int) : List Int := (Go.Sort.sort Go.Sort.ltInt l.toArray).toList
theorem sortI_perm (l : List Int) : (sortI l).Perm l := by
 unfold sortI
 rw [Go.Sort.sortInt]
 exact List.mergeSort_perm _ _
theorem sortI_sorted (l : List Int) : (sortI l).Pairwise (fun a b => a ≤ b) := by
 unfold sortI
 rw [Go.Sort.sortInt]
 have := List.pairwise_mergeSort (le := fun x y : Int => decide (x ≤ y)) (by intro a b c h1 h2; simp only [decide_eq_true_eq] at *; omega) (by intro a b; simp only [Bool.or_eq_true, decide_eq_true_eq]; omega) l
 exact this.imp fun h => of_decide_eq_true h
def compI : List Int → List Int
 | [] => []
 | [a] => [a]
 | a :: b :: r => if a = b then compI (b :: r) else a :: compI (b :: r)
theorem compI_mem (x : Int) : ∀ l : List Int, x ∈ compI l ↔ x ∈ l
 | [] => Iff.rfl
 | [a] => Iff.rfl
 | a :: b :: r => by
   have ih := compI_mem x (b :: r)
   simp only [compI]
   split
   ·rename_i h
    rw [ih, List.mem_cons (a := x) (b := a)]
    exact ⟨.inr, fun hh => hh.elim (fun e => by subst e; subst h; simp) id⟩
   ·rw [List.mem_cons, List.mem_cons, ih]
theorem compI_head : ∀ (a : Int) (l : List Int), ∃ t, compI (a :: l) = a :: t
 | a, [] => ⟨[], rfl⟩
 | a, b :: r => by
   simp only [compI]
   split
   ·rename_i h; subst h; exact compI_head a r
   ·exact ⟨_, rfl⟩
theorem compI_rises : ∀ {l : List Int}, l.Pairwise (fun a b => a ≤ b) → risesI (compI l) = true
 | [], _ => rfl
 | [a], _ => rfl
 | a :: b :: r, h => by
   have h1 := List.pairwise_cons.1 h
   have ih := compI_rises h1.2
   simp only [compI]
   split
   ·exact ih
   ·rename_i hn
    obtain ⟨t, ht⟩ := compI_head b r
    rw [ht] at ih ⊢
    simp only [risesI, Bool.and_eq_true, decide_eq_true_eq]
    exact ⟨by have := h1.1 b (by simp); omega, ih⟩
theorem compI_sort {l : List Int} (h : ∀ m ∈ l, 1 ≤ m ∧ m ≤ 4) : compI (sortI l) = ordM l :=
 marks_unique _ _ (compI_rises (sortI_sorted l)) (ordM_rises l) fun x => by rw [compI_mem, (sortI_perm l).mem_iff, ordM_mem h]
theorem compI_len : ∀ l : List Int, (compI l).length ≤ l.length
 | [] => Nat.le_refl _
 | [a] => Nat.le_refl _
 | a :: b :: r => by
   have := compI_len (b :: r)
   simp only [compI]
   split <;> simp only [List.length_cons] at * <;> omega
end Vm
namespace Vm
def encP (x : RtP) : Pt := x.1
theorem ltR_fold (a b : RtP) : decide (Pt.cmp (encP a) (encP b) < 0) = ltR a b := rfl
end Vm
open Go
namespace Vm
theorem chPs_mem {x : Pt} {l : List Ev} : x ∈ chPs l ↔ ∃ e ∈ l, x ∈ e.pitches := by
 unfold chPs; rw [ordP_mem, List.mem_flatMap]
theorem chMs_mem {x : Int} {l : List Ev} (h : ∀ e ∈ l, e.sound) : x ∈ chMs l ↔ ∃ e ∈ l, x ∈ e.marks := by
 unfold chMs
 rw [ordM_mem, List.mem_flatMap]
 intro m hm
 obtain ⟨e, he, hm⟩ := List.mem_flatMap.1 hm
 exact (h e he).mks m hm
theorem chWord_in : ∀ {l : List Ev}, chWord l = [] ∨ ∃ e ∈ l, chWord l = e.word
 | [] => .inl rfl
 | e :: r => by
   rw [chWord]
   by_cases h : e.word = []
   ·rw [if_pos h]
    rcases chWord_in (l := r) with h1 | ⟨x, hx, h1⟩
    ·exact .inl h1
    ·exact .inr ⟨x, List.mem_cons_of_mem _ hx, h1⟩
   ·rw [if_neg h]; exact .inr ⟨e, by simp, rfl⟩
theorem chEv_sound {v : Vl} {l : List Ev} (hv : v.right = true) (h : ∀ e ∈ l, e.sound) (hl : (chPs l).length ≤ 8) : (chEv v l).sound where
 pr := fun p hp => by
  obtain ⟨e, he, hp⟩ := chPs_mem.1 hp
  exact (h e he).pr p hp
 rise := ordP_rises fun p hp => by
  obtain ⟨e, he, hp⟩ := List.mem_flatMap.1 hp
  exact (h e he).pr p hp
 len := by show (chTies l).length = (chPs l).length; unfold chTies; rw [List.length_map]
 few := hl
 mks := fun m hm => by
  obtain ⟨e, he, hm⟩ := (chMs_mem h).1 hm
  exact (h e he).mks m hm
 mrise := ordM_rises _
 val := hv
 word := by
  show plain (chWord l) = true
  rcases chWord_in (l := l) with h1 | ⟨e, he, h1⟩
  ·rw [h1]; exact plain_nil
  ·rw [h1]; exact (h e he).word
 kind := rfl
 rest := fun e0 => by
  have e0 : chPs l = [] := e0
  have hr : ∀ e ∈ l, e.pitches = [] := fun e he => by
   cases hp : e.pitches with
   | nil => rfl
   | cons p ps =>
     have : p ∈ chPs l := chPs_mem.2 ⟨e, he, by rw [hp]; simp⟩
     rw [e0] at this; cases this
  refine ⟨?_, fun m hm => ?_⟩
  ·show chWord l = []
   rcases chWord_in (l := l) with h1 | ⟨e, he, h1⟩
   ·exact h1
   ·rw [h1]; exact ((h e he).rest (hr e he)).1
  ·obtain ⟨e, he, hm⟩ := (chMs_mem h).1 hm
   exact ((h e he).rest (hr e he)).2 m hm
theorem chEv_right {v : Vl} {l : List Ev} (hv : v.right = true) (h : ∀ e ∈ l, e.sound) : (chEv v l).right = decide ((chPs l).length ≤ 8) := by
 by_cases hl : (chPs l).length ≤ 8
 ·rw [decide_eq_true hl]; exact Ev.sound_right (chEv_sound hv h hl)
 ·rw [decide_eq_false hl]
  cases hc : (chEv v l).right with
  | false => rfl
  | true => exact absurd (Ev.right_sound hc).few hl
theorem all_sound {l : List Ev} (h : l.all Ev.right = true) : ∀ e ∈ l, e.sound := fun e he => Ev.right_sound (List.all_eq_true.1 h e he)
theorem chordS_eq {a : Ev} {r : List Ev} (h : (a :: r).all Ev.right = true) : chordS (a :: r) = if (a :: r).all (fun e => decide (e.val = a.val)) then (if (chPs (a :: r)).length ≤ 8 then (chEv a.val (a :: r), 0) else (zEv, 60)) else (zEv, 2) := by
 have hs := all_sound h
 unfold chordS
 dsimp only
 rw [if_pos h]
 split
 ·rw [chEv_right (hs a (by simp)).val hs]
  simp only [decide_eq_true_eq]
 ·rfl
end Vm
open Go
namespace Vm
def Ev.rise (b : Int × Int) (e : Ev) : Ev := e.withP (e.pitches.map fun p => Pt.upTo p b)
end Vm
open Go
namespace Vm
def putP (p : Pt) (t : Bool) : List Pt → List Bool → List Pt × List Bool
 | q :: ps, u :: ts => if Pt.cmp q p < 0 then (q :: (putP p t ps ts).1, u :: (putP p t ps ts).2) else if q = p then (p :: ps, (t || u) :: ts) else (p :: q :: ps, t :: u :: ts)
 | _, _ => ([p], [t])
theorem putP_len (p : Pt) (t : Bool) : ∀ (ps : List Pt) (ts : List Bool), ts.length = ps.length → (putP p t ps ts).2.length = (putP p t ps ts).1.length ∧ (putP p t ps ts).1.length ≤ ps.length + 1
 | [], [], _ => ⟨rfl, by simp [putP]⟩
 | q :: ps, u :: ts, h => by
   have ih := putP_len p t ps ts (by simpa using h)
   simp only [putP]
   have h' : ts.length = ps.length := by simpa using h
   split
   ·simp only [List.length_cons]; omega
   ·split <;> simp only [List.length_cons] <;> omega
def firstBad : List Ev → Nat → Int
 | [], _ => -1
 | e :: r, i => if e.right then firstBad r (i + 1) else i
theorem firstBad_ge : ∀ (l : List Ev) (i : Nat), decide ((0 : Int) ≤ firstBad l i) = !l.all Ev.right
 | [], i => rfl
 | e :: r, i => by
   simp only [firstBad, List.all_cons]
   by_cases h : e.right = true
   ·simp only [if_pos h]; rw [firstBad_ge r (i + 1), h, Bool.true_and]
   ·simp only [if_neg h]
    rw [Bool.eq_false_iff.2 h, Bool.false_and]; exact decide_eq_true (by omega)
def Ev.fewB (e : Ev) : Bool := decide (e.2.1.length ≤ 20) && (decide (e.2.2.1.length ≤ 20) && (decide (e.2.2.2.2.2.2.2.1.length ≤ 20) && decide (e.2.2.2.2.2.2.2.2.length ≤ 100)))
def fewS (l : List Ev) : Bool := (l.take 7).all Ev.fewB && decide (l.length ≤ 6)
end Vm
open Go
namespace Vm
def hasM (l : List Ev) (m : Int) : Bool := l.any fun e => e.marks.any fun x => decide (x = m)
def msF (l : List Ev) : Nat → Int → List Int
 | 0, _ => []
 | d + 1, m => (if hasM l m then [m] else []) ++ msF l d (m + 1)
def finE (x : Ev) : Ev × Int := if x.right = true then (x, 0) else (zEv, 60)
def putL : List Pt → List Bool → List Pt × List Bool → List Pt × List Bool
 | p :: ps, t :: ts, r => putL ps ts (putP p t r.1 r.2)
 | _, _, r => r
structure ChS where
 k : Int
 ps : List Pt
 ts : List Bool
 w : List UInt8
def goE (v : Vl) : List Ev → ChS → Option ChS
 | [], s => some s
 | e :: r, s => if e.val = v then goE v r ⟨if e.pitches = [] then s.k else 1, (putL e.pitches e.ties (s.ps, s.ts)).1, (putL e.pitches e.ties (s.ps, s.ts)).2, if s.w = [] then e.word else s.w⟩ else none
def refC (v : Vl) (l : List Ev) (o : Option ChS) : Ev × Int := match o with
 | none => (zEv, 2)
 | some s => finE (s.k, s.ps, s.ts, v.1, v.2.1, v.2.2.1, v.2.2.2, msF l 4 1, s.w)
theorem msF_all (l : List Ev) : msF l 4 1 = [1, 2, 3, 4].filter (hasM l) := by
 simp only [msF, List.filter]
 cases h1 : hasM l 1 <;> cases h2 : hasM l (1 + 1) <;> cases h3 : hasM l (1 + 1 + 1) <;> cases h4 : hasM l (1 + 1 + 1 + 1) <;> simp_all
theorem hasM_eq (l : List Ev) (m : Int) : hasM l m = (l.flatMap Ev.marks).contains m := by
 rw [Bool.eq_iff_iff]
 simp only [hasM, List.any_eq_true, decide_eq_true_eq, List.contains_iff_mem, List.mem_flatMap]
 constructor
 ·rintro ⟨e, he, x, hx, rfl⟩; exact ⟨e, he, hx⟩
 ·rintro ⟨e, he, hx⟩; exact ⟨e, he, m, hx, rfl⟩
theorem msF_ch (l : List Ev) : msF l 4 1 = chMs l := by
 rw [msF_all]
 unfold chMs ordM
 congr 1
 funext m
 exact hasM_eq l m
def sumP (L : List (Pt × Bool)) : List Pt × List Bool := (ordP (L.map Prod.fst), (ordP (L.map Prod.fst)).map fun q => L.any fun x => decide (x.1 = q) && x.2)
theorem putP_map (p : Pt) (t : Bool) (f : Pt → Bool) : ∀ (ps : List Pt), (∀ q ∈ ps, q.right = true) → p.right = true → risesP ps = true →
  (putP p t ps (ps.map f)) = (if p ∈ ps then ps else insR p ps, (if p ∈ ps then ps else insR p ps).map fun q => if q = p then (if p ∈ ps then t || f p else t) else f q)
 | [], _, _, _ => by simp [putP, insR]
 | q :: ps, hr, hp, hs => by
   have hr' : ∀ x ∈ ps, x.right = true := fun x hx => hr x (List.mem_cons_of_mem _ hx)
   have hs' : risesP ps = true := by
    cases ps with
    | nil => rfl
    | cons a b => simp only [risesP, Bool.and_eq_true] at hs; exact hs.2
   have nd := rises_nodup hr hs
   have nq : q ∉ ps := (List.nodup_cons.1 nd).1
   simp only [List.map_cons, putP]
   have ih := putP_map p t f ps hr' hp hs'
   by_cases hc : Pt.cmp q p < 0
   ·have hne : q ≠ p := by
      intro e; subst e
      exact ltP_irrefl q ((cmp_lt hp hp).1 hc)
    rw [if_pos hc, ih]
    by_cases hm : p ∈ ps
    ·rw [if_pos hm, if_pos hm, if_pos (List.mem_cons_of_mem _ hm), if_pos (List.mem_cons_of_mem _ hm)]
     simp only [List.map_cons, if_neg hne]
    ·have hm' : ¬ p ∈ q :: ps := fun h => (List.mem_cons.1 h).elim (fun e => hne e.symm) hm
     rw [if_neg hm, if_neg hm, if_neg hm', if_neg hm']
     simp only [insR, if_pos hc, List.map_cons, if_neg hne]
   ·rw [if_neg hc]
    by_cases he : q = p
    ·subst he
     rw [if_pos rfl, if_pos (List.mem_cons_self ..), if_pos (List.mem_cons_self ..)]
     simp only [List.map_cons, if_true]
     congr 2
     refine List.map_congr_left fun x hx => ?_
     rw [if_neg (fun e : x = q => nq (e ▸ hx))]
    ·have hm : ¬ p ∈ q :: ps := by
       intro h
       rcases List.mem_cons.1 h with e | h
       ·exact he e.symm
       ·have := (risesP_lt hr hs) p h
        exact hc ((cmp_lt (hr q (by simp)) hp).2 this)
     rw [if_neg he, if_neg hm, if_neg hm]
     simp only [insR, if_neg hc, List.map_cons, if_true, if_neg he]
     congr 3
     refine List.map_congr_left fun x hx => ?_
     rw [if_neg (fun e : x = p => hm (List.mem_cons_of_mem _ (e ▸ hx)))]
theorem sumP_put (L : List (Pt × Bool)) (h : ∀ x ∈ L, x.1.right = true) (p : Pt) (t : Bool) (hp : p.right = true) : putP p t (sumP L).1 (sumP L).2 = sumP (L ++ [(p, t)]) := by
 have hr : ∀ q ∈ L.map Prod.fst, q.right = true := fun q hq => by
  obtain ⟨x, hx, rfl⟩ := List.mem_map.1 hq
  exact h x hx
 have hr2 : ∀ q ∈ (L ++ [(p, t)]).map Prod.fst, q.right = true := fun q hq => by
  rw [List.map_append, List.mem_append] at hq
  rcases hq with hq | hq
  ·exact hr q hq
  ·simp at hq; subst hq; exact hp
 unfold sumP
 simp only
 rw [putP_map p t _ _ (ordP_right hr) hp (ordP_rises hr)]
 have e : (if p ∈ ordP (L.map Prod.fst) then ordP (L.map Prod.fst) else insR p (ordP (L.map Prod.fst))) = ordP ((L ++ [(p, t)]).map Prod.fst) := by
  split
  ·rename_i hm
   refine ordP_congr hr fun x => ?_
   rw [List.map_append, List.mem_append]
   constructor
   ·exact .inl
   ·rintro (h1 | h1)
    ·exact h1
    ·simp at h1; subst h1; exact (ordP_mem _ _).1 hm
  ·rename_i hm
   refine rises_unique _ _ (fun x hx => ?_) (ordP_right hr2) (risesP_ins hp (ordP_right hr) hm (ordP_rises hr)) (ordP_rises hr2) fun x => ?_
   ·rcases (insR_mem p x _).1 hx with rfl | h1
    ·exact hp
    ·exact ordP_right hr x h1
   ·rw [insR_mem, ordP_mem, ordP_mem, List.map_append, List.mem_append]
    simp [or_comm]
 rw [e]
 congr 1
 refine List.map_congr_left fun q hq => ?_
 rw [List.any_append]
 simp only [List.any_cons, List.any_nil, Bool.or_false]
 by_cases hqp : q = p
 ·subst hqp
  rw [if_pos rfl, decide_eq_true (show q = q from rfl), Bool.true_and]
  split
  ·rw [Bool.or_comm]
  ·rename_i hm
   have : (L.any fun x => decide (x.1 = q) && x.2) = false := by
    rw [List.any_eq_false]
    intro x hx
    by_cases hxq : x.1 = q
    ·exact absurd ((ordP_mem _ _).2 (List.mem_map.2 ⟨x, hx, hxq⟩)) hm
    ·rw [decide_eq_false hxq]; simp
   rw [this, Bool.false_or]
 ·rw [if_neg hqp, decide_eq_false (fun e => hqp e.symm), Bool.false_and, Bool.or_false]
theorem putL_sum : ∀ (ps : List Pt) (ts : List Bool) (L : List (Pt × Bool)), (∀ x ∈ L, x.1.right = true) → (∀ p ∈ ps, p.right = true) → putL ps ts (sumP L) = sumP (L ++ ps.zip ts)
 | [], ts, L, _, _ => by simp [putL]
 | p :: ps, [], L, _, _ => by simp [putL]
 | p :: ps, t :: ts, L, hL, hp => by
   rw [putL, sumP_put L hL p t (hp p (by simp)), putL_sum ps ts _ (fun x hx => ?_) (fun q hq => hp q (List.mem_cons_of_mem _ hq))]
   ·rw [List.append_assoc]; rfl
   ·rcases List.mem_append.1 hx with h | h
    ·exact hL x h
    ·simp at h; subst h; exact hp p (by simp)
def prs (l : List Ev) : List (Pt × Bool) := l.flatMap fun e => e.pitches.zip e.ties
theorem goE_law (v : Vl) : ∀ (l : List Ev) (L : List (Pt × Bool)) (k : Int) (w : List UInt8), (∀ e ∈ l, ∀ p ∈ e.pitches, p.right = true) → (∀ x ∈ L, x.1.right = true) →
  goE v l ⟨k, (sumP L).1, (sumP L).2, w⟩ = if l.all (fun e => decide (e.val = v)) = true then some ⟨if l.flatMap Ev.pitches = [] then k else 1, (sumP (L ++ prs l)).1, (sumP (L ++ prs l)).2, if w = [] then chWord l else w⟩ else none
 | [], L, k, w, _, _ => by
   simp only [goE, List.all_nil, if_true, List.flatMap_nil, prs, List.append_nil, chWord]
   congr 2
   split
   ·rename_i h; exact h
   ·rfl
 | e :: r, L, k, w, hl, hL => by
   simp only [goE]
   by_cases hv : e.val = v
   ·have ha : ((e :: r).all fun e => decide (e.val = v)) = r.all fun e => decide (e.val = v) := by rw [List.all_cons, decide_eq_true hv, Bool.true_and]
    rw [if_pos hv, ha]
    rw [show ((sumP L).1, (sumP L).2) = sumP L from rfl, putL_sum _ _ L hL (hl e (by simp))]
    rw [goE_law v r (L ++ e.pitches.zip e.ties) _ _ (fun x hx => hl x (List.mem_cons_of_mem _ hx)) (fun x hx => ?_)]
    ·have e1 : L ++ e.pitches.zip e.ties ++ prs r = L ++ prs (e :: r) := by rw [List.append_assoc]; rfl
     rw [e1]
     split
     ·congr 2
      ·rw [List.flatMap_cons]
       by_cases h1 : e.pitches = []
       ·rw [h1]; rfl
       ·rw [if_neg h1, if_neg (show ¬ (e.pitches ++ List.flatMap Ev.pitches r = []) from fun h => h1 (List.append_eq_nil_iff.1 h).1)]
        split <;> rfl
      ·rw [chWord]
       by_cases hw : w = []
       ·rw [if_pos hw, if_pos hw]
       ·rw [if_neg hw, if_neg hw, if_neg hw]
     ·rfl
    ·rcases List.mem_append.1 hx with h | h
     ·exact hL x h
     ·exact hl e (by simp) _ (List.of_mem_zip (show (x.1, x.2) ∈ _ from h)).1
   ·have ha : ((e :: r).all fun e => decide (e.val = v)) = false := by rw [List.all_cons, decide_eq_false hv, Bool.false_and]
    rw [if_neg hv, ha, if_neg (by decide)]
theorem zip_any (q : Pt) : ∀ (ps : List Pt) (ts : List Bool), ((ps.zip ts).any fun x => decide (x.1 = q) && x.2) = tiedIn ps ts q
 | [], ts => by simp [tiedIn]
 | p :: ps, [] => by simp [tiedIn]
 | p :: ps, t :: ts => by
   rw [List.zip_cons_cons, List.any_cons, zip_any q ps ts, tiedIn, Bool.and_comm]
   congr 2
   exact decide_eq_decide.2 ⟨Eq.symm, Eq.symm⟩
theorem prs_fst : ∀ {l : List Ev}, (∀ e ∈ l, e.ties.length = e.pitches.length) → (prs l).map Prod.fst = l.flatMap Ev.pitches
 | [], _ => rfl
 | e :: r, h => by
   have ih := prs_fst (l := r) fun x hx => h x (List.mem_cons_of_mem _ hx)
   unfold prs at ih ⊢
   rw [List.flatMap_cons, List.map_append, ih, List.flatMap_cons, List.map_fst_zip (by rw [h e (by simp)]; exact Nat.le_refl _)]
theorem prs_any (q : Pt) (l : List Ev) : ((prs l).any fun x => decide (x.1 = q) && x.2) = l.any fun e => e.tied q := by
 unfold prs
 rw [List.any_flatMap]
 congr 1
 funext e
 exact zip_any q e.pitches e.ties
theorem sum_ch {l : List Ev} (h : ∀ e ∈ l, e.ties.length = e.pitches.length) : sumP (prs l) = (chPs l, chTies l) := by
 unfold sumP
 rw [prs_fst h]
 unfold chTies
 simp only [prs_any]
 rfl
theorem refC_ch {a : Ev} {r : List Ev} (h : (a :: r).all Ev.right = true) : refC a.val (a :: r) (goE a.val (a :: r) ⟨0, [], [], []⟩) = chordS (a :: r) := by
 have hs := all_sound h
 have e0 : (⟨0, [], [], []⟩ : ChS) = ⟨0, (sumP []).1, (sumP []).2, []⟩ := rfl
 rw [e0, goE_law a.val (a :: r) [] 0 [] (fun e he p hp => (hs e he).pr p hp) (fun x hx => by cases hx)]
 rw [List.nil_append, sum_ch (fun e he => (hs e he).len)]
 unfold chordS
 simp only [h, if_true]
 split
 ·simp only [refC, msF_ch]
  have ek : (if (a :: r).flatMap Ev.pitches = [] then (0 : Int) else 1) = if chPs (a :: r) = [] then 0 else 1 := by
   have : (a :: r).flatMap Ev.pitches = [] ↔ chPs (a :: r) = [] := by
    unfold chPs
    constructor
    ·intro e; rw [e]; rfl
    ·intro e
     apply List.eq_nil_iff_forall_not_mem.2
     intro x hx
     have := (ordP_mem x _).2 hx
     rw [e] at this; cases this
   by_cases hc : chPs (a :: r) = []
   ·rw [if_pos hc, if_pos (this.2 hc)]
   ·rw [if_neg hc, if_neg (fun e => hc (this.1 e))]
  rw [ek]
  rfl
 ·rfl
end Vm
open Go
namespace Vm
theorem findKey_setB (p q : Pt) (b : Bool) : ∀ es : List (Pt × Bool), findKey beqP q (setKey beqP p b es) = if q = p then some b else findKey beqP q es
 | [] => by simp only [setKey, findKey, beqP_eq]; by_cases h : q = p <;> simp [h]
 | (r, c) :: es => by
   have ih := findKey_setB p q b es
   simp only [setKey, beqP_eq]
   by_cases hpr : p = r
   ·subst hpr
    simp only [decide_true, if_true, findKey, beqP_eq]
    by_cases h : q = p <;> simp [h]
   ·simp only [hpr, decide_false, Bool.false_eq_true, if_false, findKey, beqP_eq]
    by_cases h : q = r
    ·subst h
     have : ¬ q = p := fun e => hpr e.symm
     simp [this]
    ·simp only [h, decide_false, Bool.false_eq_true, if_false]
     exact ih
def inE : List Pt → List Bool → List Pt × List (Pt × Bool) → List Pt × List (Pt × Bool)
 | p :: ps, t :: ts, r => inE ps ts (if (findKey beqP p r.2).isSome = true then r.1 else r.1 ++ [p], setKey beqP p ((findKey beqP p r.2).getD false || t) r.2)
 | _, _, r => r
structure Seen (L : List (Pt × Bool)) (acc : List Pt) (es : List (Pt × Bool)) : Prop where
 nd : acc.Nodup
 mem : ∀ q, q ∈ acc ↔ q ∈ L.map Prod.fst
 get : ∀ q : Pt, findKey beqP q es = if q ∈ L.map Prod.fst then some (L.any fun x => decide (x.1 = q) && x.2) else none
theorem Seen.nil : Seen [] [] [] := ⟨List.nodup_nil, fun _ => Iff.rfl, fun _ => rfl⟩
theorem Seen.step {L : List (Pt × Bool)} {acc : List Pt} {es : List (Pt × Bool)} (h : Seen L acc es) (p : Pt) (t : Bool) :
  Seen (L ++ [(p, t)]) (if (findKey beqP p es).isSome = true then acc else acc ++ [p]) (setKey beqP p ((findKey beqP p es).getD false || t) es) := by
 have hg := h.get p
 have hm : ∀ q, q ∈ (L ++ [(p, t)]).map Prod.fst ↔ q ∈ L.map Prod.fst ∨ q = p := fun q => by rw [List.map_append, List.mem_append]; simp
 have hany : ∀ q, ((L ++ [(p, t)]).any fun x => decide (x.1 = q) && x.2) = ((L.any fun x => decide (x.1 = q) && x.2) || (decide (p = q) && t)) := fun q => by rw [List.any_append]; simp
 have hno : ∀ q, q ∉ L.map Prod.fst → (L.any fun x => decide (x.1 = q) && x.2) = false := fun q hq => by
  rw [List.any_eq_false]
  intro x hx
  by_cases hxq : x.1 = q
  ·exact absurd (List.mem_map.2 ⟨x, hx, hxq⟩) hq
  ·rw [decide_eq_false hxq]; simp
 by_cases hp : p ∈ L.map Prod.fst
 ·rw [if_pos hp] at hg
  rw [hg]
  refine ⟨by simp only [Option.isSome_some, if_true]; exact h.nd, fun q => ?_, fun q => ?_⟩
  ·simp only [Option.isSome_some, if_true]
   rw [hm, h.mem]
   exact ⟨.inl, fun e => e.elim id fun e => e ▸ hp⟩
  ·rw [findKey_setB, hany]
   by_cases hq : q = p
   ·subst hq
    rw [if_pos rfl, if_pos ((hm q).2 (.inr rfl)), decide_eq_true (show q = q from rfl), Bool.true_and]
    rfl
   ·rw [if_neg hq, h.get, decide_eq_false (fun e => hq e.symm), Bool.false_and, Bool.or_false]
    by_cases hq2 : q ∈ L.map Prod.fst
    ·rw [if_pos hq2, if_pos ((hm q).2 (.inl hq2))]
    ·rw [if_neg hq2, if_neg (fun e => ((hm q).1 e).elim hq2 hq)]
 ·rw [if_neg hp] at hg
  rw [hg]
  refine ⟨?_, fun q => ?_, fun q => ?_⟩
  ·rw [if_neg (by decide), List.nodup_append]
   refine ⟨h.nd, by simp, fun a ha b hb => ?_⟩
   simp at hb; subst hb
   exact fun e => hp ((h.mem _).1 (e ▸ ha))
  ·rw [if_neg (by decide), hm, List.mem_append, h.mem]; simp
  ·rw [findKey_setB, hany]
   by_cases hq : q = p
   ·subst hq
    rw [if_pos rfl, if_pos ((hm q).2 (.inr rfl)), decide_eq_true (show q = q from rfl), Bool.true_and, hno q hp]
    rfl
   ·rw [if_neg hq, h.get, decide_eq_false (fun e => hq e.symm), Bool.false_and, Bool.or_false]
    by_cases hq2 : q ∈ L.map Prod.fst
    ·rw [if_pos hq2, if_pos ((hm q).2 (.inl hq2))]
    ·rw [if_neg hq2, if_neg (fun e => ((hm q).1 e).elim hq2 hq)]
theorem inE_seen : ∀ (ps : List Pt) (ts : List Bool) (L : List (Pt × Bool)) (r : List Pt × List (Pt × Bool)), Seen L r.1 r.2 → Seen (L ++ ps.zip ts) (inE ps ts r).1 (inE ps ts r).2
 | [], ts, L, r, h => by simpa [inE] using h
 | p :: ps, [], L, r, h => by simpa [inE] using h
 | p :: ps, t :: ts, L, r, h => by
   have := inE_seen ps ts (L ++ [(p, t)]) (if (findKey beqP p r.2).isSome = true then r.1 else r.1 ++ [p], setKey beqP p ((findKey beqP p r.2).getD false || t) r.2) (h.step p t)
   simp only [inE]
   rw [List.zip_cons_cons]
   rwa [List.append_assoc] at this
theorem inE_len : ∀ (ps : List Pt) (ts : List Bool) (r : List Pt × List (Pt × Bool)), (inE ps ts r).1.length ≤ r.1.length + ps.length
 | [], ts, r => by simp [inE]
 | p :: ps, [], r => by simp [inE]
 | p :: ps, t :: ts, r => by
   have := inE_len ps ts (if (findKey beqP p r.2).isSome = true then r.1 else r.1 ++ [p], setKey beqP p ((findKey beqP p r.2).getD false || t) r.2)
   simp only [inE]
   have h2 : (if (findKey beqP p r.2).isSome = true then r.1 else r.1 ++ [p]).length ≤ r.1.length + 1 := by split <;> simp
   simp only [List.length_cons]
   simp only at this
   omega
structure PrS where
 acc : List Pt
 es : List (Pt × Bool)
 ms : List Int
 w : List UInt8
def goP (v : Vl) : List Ev → PrS → Option PrS
 | [], s => some s
 | e :: r, s => if e.val = v then goP v r ⟨(inE e.pitches e.ties (s.acc, s.es)).1, (inE e.pitches e.ties (s.acc, s.es)).2, s.ms ++ e.marks, if s.w = [] then e.word else s.w⟩ else none
def finP (v : Vl) (s : PrS) : Ev × Int := finE (if sortR s.acc = [] then 0 else 1, sortR s.acc, (sortR s.acc).map fun p => (findKey beqP p s.es).getD false, v.1, v.2.1, v.2.2.1, v.2.2.2, compI (sortI s.ms), s.w)
def proC (v : Vl) (o : Option PrS) : Ev × Int := match o with
 | none => (zEv, 2)
 | some s => finP v s
theorem goP_law (v : Vl) : ∀ (l : List Ev) (L : List (Pt × Bool)) (s : PrS), Seen L s.acc s.es →
  (l.all (fun e => decide (e.val = v)) = true → ∃ s', goP v l s = some s' ∧ Seen (L ++ prs l) s'.acc s'.es ∧ s'.ms = s.ms ++ l.flatMap Ev.marks ∧ s'.w = if s.w = [] then chWord l else s.w) ∧ (¬ l.all (fun e => decide (e.val = v)) = true → goP v l s = none)
 | [], L, s, h => by
   refine ⟨fun _ => ⟨s, rfl, by simpa [prs] using h, by simp, ?_⟩, fun h => absurd rfl h⟩
   by_cases hw : s.w = []
   ·rw [if_pos hw]; exact hw
   ·rw [if_neg hw]
 | e :: r, L, s, h => by
   simp only [goP]
   by_cases hv : e.val = v
   ·have ha : ((e :: r).all fun e => decide (e.val = v)) = r.all fun e => decide (e.val = v) := by rw [List.all_cons, decide_eq_true hv, Bool.true_and]
    rw [if_pos hv, ha]
    have ih := goP_law v r (L ++ e.pitches.zip e.ties) ⟨(inE e.pitches e.ties (s.acc, s.es)).1, (inE e.pitches e.ties (s.acc, s.es)).2, s.ms ++ e.marks, if s.w = [] then e.word else s.w⟩ (inE_seen _ _ L (s.acc, s.es) h)
    refine ⟨fun hall => ?_, ih.2⟩
    obtain ⟨s', h1, h2, h3, h4⟩ := ih.1 hall
    refine ⟨s', h1, ?_, ?_, ?_⟩
    ·rw [List.append_assoc] at h2; exact h2
    ·rw [h3, List.flatMap_cons, List.append_assoc]
    ·rw [h4, chWord]
     by_cases hw : s.w = []
     ·simp only [if_pos hw]
     ·simp only [if_neg hw]
   ·have ha : ((e :: r).all fun e => decide (e.val = v)) = false := by rw [List.all_cons, decide_eq_false hv, Bool.false_and]
    rw [if_neg hv, ha]
    exact ⟨fun h => absurd h (by decide), fun _ => rfl⟩
theorem proC_ch {a : Ev} {r : List Ev} (h : (a :: r).all Ev.right = true) : proC a.val (goP a.val (a :: r) ⟨[], [], [], []⟩) = chordS (a :: r) := by
 have hs := all_sound h
 have hl := goP_law a.val (a :: r) [] ⟨[], [], [], []⟩ Seen.nil
 unfold chordS
 simp only [h, if_true]
 by_cases hv : (a :: r).all (fun e => decide (e.val = a.val)) = true
 ·rw [if_pos hv]
  obtain ⟨s', h1, h2, h3, h4⟩ := hl.1 hv
  rw [h1]
  simp only [proC, finP]
  rw [List.nil_append] at h2
  have hf := prs_fst (l := a :: r) (fun e he => (hs e he).len)
  have hpr : ∀ p ∈ (a :: r).flatMap Ev.pitches, p.right = true := fun p hp => by
   obtain ⟨e, he, hpe⟩ := List.mem_flatMap.1 hp
   exact (hs e he).pr p hpe
  have hacc : ∀ p ∈ s'.acc, p.right = true := fun p hp => hpr p (hf ▸ (h2.mem p).1 hp)
  have e1 : sortR s'.acc = chPs (a :: r) := by
   rw [sortR_ord hacc h2.nd]
   exact ordP_congr hacc fun x => by rw [h2.mem, hf]
  have e2 : compI (sortI s'.ms) = chMs (a :: r) := by
   rw [h3]
   exact compI_sort fun m hm => by
    rw [List.nil_append] at hm
    obtain ⟨e, he, hme⟩ := List.mem_flatMap.1 hm
    exact (hs e he).mks m hme
  have e3 : ((chPs (a :: r)).map fun p => (findKey beqP p s'.es).getD false) = chTies (a :: r) := by
   unfold chTies
   refine List.map_congr_left fun q hq => ?_
   have hq2 : q ∈ (prs (a :: r)).map Prod.fst := by rw [hf]; exact (ordP_mem q _).1 hq
   rw [h2.get, if_pos hq2, ← prs_any]
   rfl
  rw [e1, e2, e3, h4]
  rfl
 ·rw [if_neg hv, hl.2 hv]
  rfl
theorem marks_len {e : Ev} (h : e.sound) : e.marks.length ≤ 4 := by
 have := ordM_self h.mks h.mrise
 rw [← this]
 unfold ordM
 exact Nat.le_trans (List.length_filter_le _ _) (Nat.le_refl 4)
end Vm
open Go
namespace Vm
theorem chMs_len (l : List Ev) : (chMs l).length ≤ 4 := by
 unfold chMs ordM
 exact Nat.le_trans (List.length_filter_le _ _) (Nat.le_refl 4)
theorem chordS_short (l : List Ev) : (chordS l).1.2.1.length ≤ 8 ∧ (chordS l).1.2.2.1.length ≤ 8 ∧ (chordS l).1.2.2.2.2.2.2.2.1.length ≤ 4 := by
 have z : zEv.2.1.length ≤ 8 ∧ zEv.2.2.1.length ≤ 8 ∧ zEv.2.2.2.2.2.2.2.1.length ≤ 4 := ⟨by decide, by decide, by decide⟩
 cases l with
 | nil => exact z
 | cons a r =>
   cases h : (a :: r).all Ev.right with
   | false => rw [chordS_wrong (by simp) h]; exact z
   | true =>
     rw [chordS_eq h]
     split
     ·split
      ·rename_i hl
       refine ⟨hl, ?_, chMs_len _⟩
       show (chTies (a :: r)).length ≤ 8
       unfold chTies
       rw [List.length_map]; exact hl
      ·exact z
     ·exact z
end Vm
