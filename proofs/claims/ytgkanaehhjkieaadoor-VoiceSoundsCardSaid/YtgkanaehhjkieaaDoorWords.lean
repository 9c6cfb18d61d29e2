/- What the functions on values, pitches, events, ratios and voices answer, in plain words (no program stands here). -/
import Derived.Test.YtgkanaehhjkieaaDoorVmE
import Derived.Lib.DecodeN
import Derived.Test.YtgkanaehhjkieaaDoorVmC
set_option maxRecDepth 100000
/- What the functions on values, pitches, words and events answer, in plain words; nothing of a program stands here. -/
open Go
namespace Vm
theorem take_drop_len {α : Type} (xs : List α) (k : Nat) : List.take (xs.length - k) (List.drop k xs) = List.drop k xs := List.take_of_length_le (by simp)

def isInt (y n : Int) : Bool := decide (y = n)
theorem isInt_eq {y n : Int} (h : isInt y n = true) : y = n := of_decide_eq_true h
/-! ### Values -/
abbrev Vl := Int × Int × Int × Int
def Vl.right (v : Vl) : Bool := decide (0 ≤ v.1 ∧ v.1 ≤ 6 ∧ 0 ≤ v.2.1 ∧ v.2.1 ≤ 2 ∧ ((v.2.2.1 = 0 ∧ v.2.2.2 = 0) ∨ (2 ≤ v.2.2.1 ∧ v.2.2.1 ≤ 15 ∧ 1 ≤ v.2.2.2 ∧ v.2.2.2 ≤ 15 ∧ v.2.2.1 ≠ v.2.2.2)))

/-! ### Pitches -/
abbrev Pt := Int × Int × Int
def Pt.half (s : Int) : Int := if s < 3 then 2 * s else 2 * s - 1
def Pt.num (p : Pt) : Int := 12 * (p.2.2 + 1) + Pt.half p.1 + p.2.1
def Pt.line (p : Pt) : Int := 7 * p.2.2 + p.1
def Pt.right (p : Pt) : Bool := decide (0 ≤ p.1 ∧ p.1 ≤ 6 ∧ -2 ≤ p.2.1 ∧ p.2.1 ≤ 2 ∧ -1 ≤ p.2.2 ∧ p.2.2 ≤ 9 ∧ 0 ≤ p.num ∧ p.num ≤ 127)
def sgn (a b : Int) : Int := if a < b then -1 else if b < a then 1 else 0
def Pt.cmp (a b : Pt) : Int := if a.right && b.right then (if sgn a.num b.num = 0 then sgn a.line b.line else sgn a.num b.num) else 0
def Pt.mild (p : Pt) : Bool := decide (0 ≤ p.1 ∧ p.1 ≤ 6 ∧ -1000 ≤ p.2.1 ∧ p.2.1 ≤ 1000 ∧ -1000 ≤ p.2.2 ∧ p.2.2 ≤ 1000)
theorem Pt.mild_of {p : Pt} (h : p.right = true) : p.mild = true := by
  simp only [Pt.right, Pt.mild, decide_eq_true_eq] at h ⊢; omega
theorem glHalf_idx {s : Int} (h₀ : 0 ≤ s) (h₁ : s ≤ 6) : idx ([0, 2, 4, 5, 7, 9, 11] : List Int) s = some (Pt.half s) := by
  have : s = 0 ∨ s = 1 ∨ s = 2 ∨ s = 3 ∨ s = 4 ∨ s = 5 ∨ s = 6 := by omega
  rcases this with rfl | rfl | rfl | rfl | rfl | rfl | rfl <;> rfl
theorem Pt.half_le {s : Int} (h₀ : 0 ≤ s) (h₁ : s ≤ 6) : 0 ≤ Pt.half s ∧ Pt.half s ≤ 11 := by unfold Pt.half; split <;> omega
theorem Pt.right_iff (p : Pt) : p.right = true ↔ (0 ≤ p.1 ∧ p.1 ≤ 6 ∧ -2 ≤ p.2.1 ∧ p.2.1 ≤ 2 ∧ -1 ≤ p.2.2 ∧ p.2.2 ≤ 9 ∧ 0 ≤ p.num ∧ p.num ≤ 127) := by simp [Pt.right]

/-! ### Marks -/
def risesI : List Int → Bool
  | a :: b :: l => decide (a < b) && risesI (b :: l)
  | _ => true
def marked (l : List Int) : Bool := l.all (fun m => decide (1 ≤ m ∧ m ≤ 4)) && risesI l
def risesP : List Pt → Bool
  | a :: b :: l => decide (Pt.cmp b a > 0) && risesP (b :: l)
  | _ => true

/-! ### Words -/
/-- a lead byte: how many bytes there are, and between what the second one lies -/
def U.cls (a : Int) : Int × Int × Int :=
  if a < 128 then (1, 0, 0) else if a < 194 then (0, 0, 0) else if a ≤ 223 then (2, 128, 191) else if a = 224 then (3, 160, 191) else if a = 237 then (3, 128, 159) else if a ≤ 239 then (3, 128, 191)
  else if a = 240 then (4, 144, 191) else if a ≤ 243 then (4, 128, 191) else if a = 244 then (4, 128, 143) else (0, 0, 0)
def U.by (a : UInt8) : Int := (a.toNat : Int)
def U.cont (a : UInt8) : Bool := decide (128 ≤ U.by a ∧ U.by a ≤ 191)
/-- how long the character at the head is; 0: it is none -/
def U.rune (s : List UInt8) : Nat := match s with
  | [] => 0
  | a :: r =>
    if (U.cls (U.by a)).1 = 1 then 1
    else match r with
      | [] => 0
      | b :: r =>
        if decide ((U.cls (U.by a)).2.1 ≤ U.by b ∧ U.by b ≤ (U.cls (U.by a)).2.2) then
          if (U.cls (U.by a)).1 = 2 then 2
          else match r with
            | [] => 0
            | c :: r =>
              if U.cont c then
                if (U.cls (U.by a)).1 = 3 then 3
                else match r with
                  | [] => 0
                  | d :: _ => if U.cont d && decide ((U.cls (U.by a)).1 = 4) then 4 else 0
              else 0
        else 0
theorem U.rune_le (s : List UInt8) : U.rune s ≤ s.length := by
  unfold U.rune
  repeat' split
  all_goals (simp only [List.length_nil, List.length_cons]; omega)
def U.valid (s : List UInt8) : Bool := if _h : s = [] then true else if _h₂ : U.rune s = 0 then false else U.valid (s.drop (U.rune s))
termination_by s.length
decreasing_by
  have : 0 < s.length := List.length_pos_iff.2 _h
  simp only [List.length_drop]; omega
/-- is there no sign that commands? -/
def U.calm (s : List UInt8) : Bool := s.all fun a => decide (32 ≤ U.by a ∧ U.by a ≠ 127)
def plain (s : List UInt8) : Bool := decide (s.length ≤ 40) && (U.valid s && U.calm s)

/-! ### Events -/
abbrev Ev := Int × List (Int × Int × Int) × List Bool × Int × Int × Int × Int × List Int × List UInt8
def Ev.kind (x : Ev) : Int := x.1
def Ev.pitches (x : Ev) : List Pt := x.2.1
def Ev.ties (x : Ev) : List Bool := x.2.2.1
def Ev.val (x : Ev) : Vl := (x.2.2.2.1, x.2.2.2.2.1, x.2.2.2.2.2.1, x.2.2.2.2.2.2.1)
def Ev.marks (x : Ev) : List Int := x.2.2.2.2.2.2.2.1
def Ev.word (x : Ev) : List UInt8 := x.2.2.2.2.2.2.2.2
def Ev.right (x : Ev) : Bool := x.val.right && (plain x.word && (marked x.marks && (decide (x.ties.length = x.pitches.length) &&
  (if x.kind = 0 then decide (x.pitches.length = 0) && (decide (x.word = []) && x.marks.all (fun m => decide (m = 4)))
   else decide (x.kind = 1) && (decide (1 ≤ x.pitches.length) && (decide (x.pitches.length ≤ 8) && (x.pitches.all Pt.right && risesP x.pitches)))))))
def Ev.small (x : Ev) : Bool := decide (x.2.1.length < 4611686018427387904) && (decide (x.2.2.1.length < 4611686018427387904) && decide (x.2.2.2.2.2.2.2.1.length < 4611686018427387904))
def Ev.same (x y : Ev) : Bool := decide (x.1 = y.1) && (decide (x.2.1 = y.2.1) && (decide (x.2.2.1 = y.2.2.1) && (decide (x.2.2.2.1 = y.2.2.2.1) && (decide (x.2.2.2.2.1 = y.2.2.2.2.1) && (decide (x.2.2.2.2.2.1 = y.2.2.2.2.2.1) && (decide (x.2.2.2.2.2.2.1 = y.2.2.2.2.2.2.1) &&
  (decide (x.2.2.2.2.2.2.2.1 = y.2.2.2.2.2.2.2.1) && decide (x.2.2.2.2.2.2.2.2 = y.2.2.2.2.2.2.2.2))))))))
theorem Ev.same_iff (x y : Ev) : Ev.same x y = true ↔ x = y := by
  obtain ⟨a1, a2, a3, a4, a5, a6, a7, a8, a9⟩ := x
  obtain ⟨b1, b2, b3, b4, b5, b6, b7, b8, b9⟩ := y
  simp [Ev.same]
/-! ### Tables that the code reads -/
def utf8First : List Int := [240, 240, 240, 240, 240, 240, 240, 240, 240, 240, 240, 240, 240, 240, 240, 240, 240, 240, 240, 240, 240, 240, 240, 240, 240, 240, 240, 240, 240, 240, 240, 240, 240, 240, 240, 240, 240, 240, 240, 240, 240, 240, 240, 240, 240, 240, 240, 240, 240, 240, 240, 240, 240, 240, 240, 240, 240, 240, 240, 240, 240, 240, 240, 240, 240, 240, 240, 240, 240, 240, 240, 240, 240, 240, 240, 240, 240, 240, 240, 240, 240, 240, 240, 240, 240, 240, 240, 240, 240, 240, 240, 240, 240, 240, 240, 240, 240, 240, 240, 240, 240, 240, 240, 240, 240, 240, 240, 240, 240, 240, 240, 240, 240, 240, 240, 240, 240, 240, 240, 240, 240, 240, 240, 240, 240, 240, 240, 240, 241, 241, 241, 241, 241, 241, 241, 241, 241, 241, 241, 241, 241, 241, 241, 241, 241, 241, 241, 241, 241, 241, 241, 241, 241, 241, 241, 241, 241, 241, 241, 241, 241, 241, 241, 241, 241, 241, 241, 241, 241, 241, 241, 241, 241, 241, 241, 241, 241, 241, 241, 241, 241, 241, 241, 241, 241, 241, 241, 241, 241, 241, 241, 241, 241, 241, 2, 2, 2, 2, 2, 2, 2, 2, 2, 2, 2, 2, 2, 2, 2, 2, 2, 2, 2, 2, 2, 2, 2, 2, 2, 2, 2, 2, 2, 2, 19, 3, 3, 3, 3, 3, 3, 3, 3, 3, 3, 3, 3, 35, 3, 3, 52, 4, 4, 4, 68, 241, 241, 241, 241, 241, 241, 241, 241, 241, 241, 241]
def utf8Accept : List (Int × Int) := [(128, 191), (160, 191), (128, 159), (144, 191), (128, 143), (0, 0), (0, 0), (0, 0), (0, 0), (0, 0), (0, 0), (0, 0), (0, 0), (0, 0), (0, 0), (0, 0)]
def glDotted : List (Int × Int) := [(1, 1), (3, 2), (7, 4)]
def glHalf : List Int := [0, 2, 4, 5, 7, 9, 11]

end Vm
namespace Vm
def glKinds : List (Int × Int × Int × Int) := [(0, 0, 0, 0), (0, 0, 3, 2), (0, 0, 5, 4), (0, 0, 7, 4)]
end Vm

/- Words: how the model reads characters, and how they are told to be right. -/
open Go
namespace Vm
def g4 (t : List UInt8) (k : Nat) : Nat := (t[k]?.getD 0).toNat
theorem get_drop (s : List UInt8) (p k : Nat) : ((⟨s.toArray⟩ : ByteArray).get! (p + k)).toNat = g4 (s.drop p) k := by
  have : (⟨s.toArray⟩ : ByteArray).get! (p + k) = s.toArray[p + k]! := rfl
  rw [this, g4, List.getElem?_drop]
  simp only [Array.getElem!_eq_getD, Array.getD_eq_getD_getElem?, List.getElem?_toArray]
  rfl
theorem decode_drop (s : List UInt8) (p : Nat) : Utf8.decode ⟨s.toArray⟩ p = Lib.decodeN (s.drop p).length (g4 (s.drop p) 0) (g4 (s.drop p) 1) (g4 (s.drop p) 2) (g4 (s.drop p) 3) := by
  have e0 := get_drop s p 0
  rw [Nat.add_zero] at e0
  rw [Lib.decode_at, e0, get_drop, get_drop, get_drop, List.length_drop]
  rfl
theorem g4_lt (t : List UInt8) (k : Nat) : g4 t k < 256 := UInt8.toNat_lt _

theorem slow2 {n b0 b1 b2 b3 lo hi : Nat} (h : 2 ≤ n) (h1 : lo ≤ b1) (h1' : b1 ≤ hi) : Lib.slowN n b0 b1 b2 b3 2 lo hi = (b0 % 32 * 64 + b1 % 64, 2) := by
  unfold Lib.slowN
  rw [if_neg (by omega), if_neg (by omega), if_pos (by omega)]
theorem slow3 {n b0 b1 b2 b3 lo hi : Nat} (h : 3 ≤ n) (h1 : lo ≤ b1) (h1' : b1 ≤ hi) (h2 : 128 ≤ b2) (h2' : b2 ≤ 191) : Lib.slowN n b0 b1 b2 b3 3 lo hi = (b0 % 16 * 4096 + b1 % 64 * 64 + b2 % 64, 3) := by
  unfold Lib.slowN
  rw [if_neg (by omega), if_neg (by omega), if_neg (by omega), if_neg (by omega), if_pos (by omega)]
theorem slow4 {n b0 b1 b2 b3 lo hi : Nat} (h : 4 ≤ n) (h1 : lo ≤ b1) (h1' : b1 ≤ hi) (h2 : 128 ≤ b2) (h2' : b2 ≤ 191) (h3 : 128 ≤ b3) (h3' : b3 ≤ 191) : Lib.slowN n b0 b1 b2 b3 4 lo hi = (b0 % 8 * 262144 + b1 % 64 * 4096 + b2 % 64 * 64 + b3 % 64, 4) := by
  unfold Lib.slowN
  rw [if_neg (by omega), if_neg (by omega), if_neg (by omega), if_neg (by omega), if_neg (by omega), if_neg (by omega)]

/-- what it means that a character of several bytes is right -/
theorem U.rune_two {a b : UInt8} {r : List UInt8} {lo hi : Int} (h2 : U.cls (U.by a) = (2, lo, hi)) : U.rune (a :: b :: r) = if lo ≤ U.by b ∧ U.by b ≤ hi then 2 else 0 := by
  simp only [U.rune, h2]; simp
theorem U.rune_three {a b c : UInt8} {r : List UInt8} {lo hi : Int} (h2 : U.cls (U.by a) = (3, lo, hi)) : U.rune (a :: b :: c :: r) = if (lo ≤ U.by b ∧ U.by b ≤ hi) ∧ U.cont c = true then 3 else 0 := by
  by_cases hx : lo ≤ U.by b ∧ U.by b ≤ hi <;> by_cases hy : U.cont c = true <;> simp [U.rune, h2, hx, hy]
theorem U.rune_four {a b c d : UInt8} {r : List UInt8} {lo hi : Int} (h2 : U.cls (U.by a) = (4, lo, hi)) : U.rune (a :: b :: c :: d :: r) = if (lo ≤ U.by b ∧ U.by b ≤ hi) ∧ U.cont c = true ∧ U.cont d = true then 4 else 0 := by
  by_cases hx : lo ≤ U.by b ∧ U.by b ≤ hi <;> by_cases hy : U.cont c = true <;> by_cases hz : U.cont d = true <;> simp [U.rune, h2, hx, hy, hz]
theorem U.rune_short1 {a : UInt8} {n lo hi : Int} (h2 : U.cls (U.by a) = (n, lo, hi)) (hn : n ≠ 1) : U.rune [a] = 0 := by simp [U.rune, h2, hn]
theorem U.rune_short2 {a b : UInt8} {n lo hi : Int} (h2 : U.cls (U.by a) = (n, lo, hi)) (hn : n ≠ 1) (hn' : n ≠ 2) : U.rune [a, b] = 0 := by simp [U.rune, h2, hn, hn']
theorem U.rune_short3 {a b c : UInt8} {n lo hi : Int} (h2 : U.cls (U.by a) = (n, lo, hi)) (hn : n ≠ 1) (hn' : n ≠ 2) (hn'' : n ≠ 3) : U.rune [a, b, c] = 0 := by simp [U.rune, h2, hn, hn', hn'']
theorem U.rune_bad {a : UInt8} {r : List UInt8} {lo hi : Int} (h2 : U.cls (U.by a) = (0, lo, hi)) : U.rune (a :: r) = 0 := by
  simp only [U.rune, h2]
  repeat' split
  all_goals first | rfl | (simp_all; done) | (simp_all; omega)
theorem U.rune_low {a : UInt8} {r : List UInt8} {lo hi : Int} (h2 : U.cls (U.by a) = (1, lo, hi)) : U.rune (a :: r) = 1 := by simp [U.rune, h2]

theorem U.cls_cases (a : UInt8) : (U.by a < 128 ∧ U.cls (U.by a) = (1, 0, 0)) ∨ (((128 ≤ U.by a ∧ U.by a < 194) ∨ 244 < U.by a) ∧ U.cls (U.by a) = (0, 0, 0)) ∨ ((194 ≤ U.by a ∧ U.by a < 224) ∧ U.cls (U.by a) = (2, 128, 191)) ∨
    (U.by a = 224 ∧ U.cls (U.by a) = (3, 160, 191)) ∨ (U.by a = 237 ∧ U.cls (U.by a) = (3, 128, 159)) ∨ (((225 ≤ U.by a ∧ U.by a < 237) ∨ (238 ≤ U.by a ∧ U.by a < 240)) ∧ U.cls (U.by a) = (3, 128, 191)) ∨
    (U.by a = 240 ∧ U.cls (U.by a) = (4, 144, 191)) ∨ ((241 ≤ U.by a ∧ U.by a < 244) ∧ U.cls (U.by a) = (4, 128, 191)) ∨ (U.by a = 244 ∧ U.cls (U.by a) = (4, 128, 143)) := by
  have h0 : (0 : Int) ≤ U.by a := by simp [U.by]
  revert h0
  generalize U.by a = n
  intro h0
  simp only [U.cls]
  repeat' split
  all_goals simp
  all_goals omega

abbrev dec (t : List UInt8) : Nat × Nat := Lib.decodeN t.length (g4 t 0) (g4 t 1) (g4 t 2) (g4 t 3)
theorem U.calm_big {l : List UInt8} (h : ∀ a ∈ l, 128 ≤ U.by a) : U.calm l = true := by
  simp only [U.calm, List.all_eq_true, decide_eq_true_eq]
  intro a ha; have := h a ha; omega
/-- a right character is read as it is: as many bytes; and it commands only if it is one byte that does -/
theorem dec_rune (t : List UInt8) (h : U.rune t ≠ 0) : (dec t).2 = U.rune t ∧ (decide (((dec t).1 : Int) < 32) || decide (((dec t).1 : Int) = 127)) = !U.calm (t.take (U.rune t)) := by
  have big : ∀ (n v : Nat) (l : List UInt8), (∀ a ∈ l, 128 ≤ U.by a) → 128 ≤ v → (decide ((v : Int) < 32) || decide ((v : Int) = 127)) = !U.calm l := fun n v l hl hv => by
    rw [U.calm_big hl, decide_eq_false (by omega), decide_eq_false (by omega)]; rfl
  have low1 : ∀ n : Int, (decide (n < 32) || decide (n = 127)) = !decide (32 ≤ n ∧ n ≠ 127) := fun n => by
    by_cases h1 : n < 32
    · simp [h1]; try omega
    · by_cases h2 : n = 127
      · simp [h2]
      · simp [h1, h2]; omega
  match t, h with
  | [], h => exact absurd rfl h
  | [a], h =>
    rcases U.cls_cases a with ⟨h1, h2⟩ | ⟨h1, h2⟩ | ⟨h1, h2⟩ | ⟨h1, h2⟩ | ⟨h1, h2⟩ | ⟨h1, h2⟩ | ⟨h1, h2⟩ | ⟨h1, h2⟩ | ⟨h1, h2⟩
    · rw [U.rune_low h2]
      have hd : dec [a] = (a.toNat, 1) := by
        simp only [dec, Lib.decodeN]; rw [if_pos (by simp [g4]; simp [U.by] at h1; omega)]; rfl
      rw [hd]
      refine ⟨rfl, ?_⟩
      simp only [List.take, U.calm, List.all_cons, List.all_nil, Bool.and_true, U.by]
      exact low1 _
    · exact absurd (U.rune_bad h2) h
    all_goals exact absurd (U.rune_short1 h2 (by decide)) h
  | a :: b :: r, h =>
    have hb0 : g4 (a :: b :: r) 0 = a.toNat := rfl
    have hb1 : g4 (a :: b :: r) 1 = b.toNat := rfl
    have ha : U.by a = (a.toNat : Int) := rfl
    have hb : U.by b = (b.toNat : Int) := rfl
    have l1 := g4_lt (a :: b :: r) 1
    have l2 := g4_lt (a :: b :: r) 2
    have l3 := g4_lt (a :: b :: r) 3
    rcases U.cls_cases a with ⟨h1, h2⟩ | ⟨h1, h2⟩ | ⟨h1, h2⟩ | ⟨h1, h2⟩ | ⟨h1, h2⟩ | ⟨h1, h2⟩ | ⟨h1, h2⟩ | ⟨h1, h2⟩ | ⟨h1, h2⟩
    · rw [U.rune_low h2]
      have hd : dec (a :: b :: r) = (a.toNat, 1) := by
        simp only [dec, Lib.decodeN]; rw [hb0, if_pos (by omega)]
      rw [hd]
      refine ⟨rfl, ?_⟩
      simp only [List.take, U.calm, List.all_cons, List.all_nil, Bool.and_true, U.by]
      exact low1 _
    · exact absurd (U.rune_bad h2) h
    · rw [U.rune_two h2] at h ⊢
      split at h
      · rename_i hc
        rw [if_pos hc]
        have e : dec (a :: b :: r) = _ := (Lib.slow_C2 (a :: b :: r).length _ _ _ _ (by simp) l1 l2 l3 (by rw [hb0]; omega)).symm.trans (slow2 (by simp) (by rw [hb1]; omega) (by rw [hb1]; omega))
        rw [e]
        exact ⟨rfl, big 2 _ _ (by intro x hx; simp at hx; rcases hx with rfl | rfl <;> omega) (by rw [hb0, hb1]; omega)⟩
      · exact absurd rfl h
    all_goals
      match r, h with
      | [], h => exact absurd (U.rune_short2 h2 (by decide) (by decide)) h
      | c :: r, h =>
        have hb2 : g4 (a :: b :: c :: r) 2 = c.toNat := rfl
        have hc' : U.by c = (c.toNat : Int) := rfl
        first
        | (rw [U.rune_three h2] at h ⊢
           split at h
           · rename_i hc
             rw [if_pos hc]
             obtain ⟨hc1, hc2⟩ := hc
             simp only [U.cont, decide_eq_true_eq] at hc2
             have e : dec (a :: b :: c :: r) = _ := (by
               first
               | exact (Lib.slow_E0 (a :: b :: c :: r).length _ _ _ _ (by simp) l1 l2 l3 (by rw [hb0]; omega)).symm.trans (slow3 (by simp) (by rw [hb1]; omega) (by rw [hb1]; omega) (by rw [hb2]; omega) (by rw [hb2]; omega))
               | exact (Lib.slow_ED (a :: b :: c :: r).length _ _ _ _ (by simp) l1 l2 l3 (by rw [hb0]; omega)).symm.trans (slow3 (by simp) (by rw [hb1]; omega) (by rw [hb1]; omega) (by rw [hb2]; omega) (by rw [hb2]; omega))
               | exact (Lib.slow_E1 (a :: b :: c :: r).length _ _ _ _ (by simp) l1 l2 l3 (by rw [hb0]; omega)).symm.trans (slow3 (by simp) (by rw [hb1]; omega) (by rw [hb1]; omega) (by rw [hb2]; omega) (by rw [hb2]; omega)))
             rw [e]
             exact ⟨rfl, big 3 _ _ (by intro x hx; simp at hx; rcases hx with rfl | rfl | rfl <;> omega) (by rw [hb0, hb1, hb2]; omega)⟩
           · exact absurd rfl h)
        | (match r, h with
           | [], h => exact absurd (U.rune_short3 h2 (by decide) (by decide) (by decide)) h
           | d :: r, h =>
             have hb3 : g4 (a :: b :: c :: d :: r) 3 = d.toNat := rfl
             have hd' : U.by d = (d.toNat : Int) := rfl
             rw [U.rune_four h2] at h ⊢
             split at h
             · rename_i hc
               rw [if_pos hc]
               obtain ⟨hc1, hc2, hc3⟩ := hc
               simp only [U.cont, decide_eq_true_eq] at hc2 hc3
               have e : dec (a :: b :: c :: d :: r) = _ := (by
                 first
                 | exact (Lib.slow_F0 (a :: b :: c :: d :: r).length _ _ _ _ (by simp) l1 l2 l3 (by rw [hb0]; omega)).symm.trans (slow4 (by simp) (by rw [hb1]; omega) (by rw [hb1]; omega) (by rw [hb2]; omega) (by rw [hb2]; omega) (by rw [hb3]; omega) (by rw [hb3]; omega))
                 | exact (Lib.slow_F4 (a :: b :: c :: d :: r).length _ _ _ _ (by simp) l1 l2 l3 (by rw [hb0]; omega)).symm.trans (slow4 (by simp) (by rw [hb1]; omega) (by rw [hb1]; omega) (by rw [hb2]; omega) (by rw [hb2]; omega) (by rw [hb3]; omega) (by rw [hb3]; omega))
                 | exact (Lib.slow_F1 (a :: b :: c :: d :: r).length _ _ _ _ (by simp) l1 l2 l3 (by rw [hb0]; omega)).symm.trans (slow4 (by simp) (by rw [hb1]; omega) (by rw [hb1]; omega) (by rw [hb2]; omega) (by rw [hb2]; omega) (by rw [hb3]; omega) (by rw [hb3]; omega)))
               rw [e]
               exact ⟨rfl, big 4 _ _ (by intro x hx; simp at hx; rcases hx with rfl | rfl | rfl | rfl <;> omega) (by rw [hb0, hb1, hb2, hb3]; omega)⟩
             · exact absurd rfl h)

theorem U.valid_nil : U.valid [] = true := by rw [U.valid]; rfl
theorem U.valid_step {s : List UInt8} (h : s ≠ []) (h2 : U.rune s ≠ 0) : U.valid s = U.valid (s.drop (U.rune s)) := by
  rw [U.valid, dif_neg h, dif_neg h2]
theorem U.valid_bad {s : List UInt8} (h : s ≠ []) (h2 : U.rune s = 0) : U.valid s = false := by
  rw [U.valid, dif_neg h, dif_pos h2]
theorem U.calm_split (s : List UInt8) (n : Nat) : U.calm s = (U.calm (s.take n) && U.calm (s.drop n)) := by
  unfold U.calm; rw [← List.all_append, List.take_append_drop]
end Vm
namespace Vm
theorem td (s : List UInt8) (k : Int) (n : Nat) (h : k = (n : Int)) : List.take ((s.length : Int).toNat - k.toNat) (List.drop k.toNat s) = s.drop n := by
  subst h; simp only [Int.toNat_natCast]; exact take_drop_len s n
theorem U.valid_low (k : Nat) : ∀ (s : List UInt8), lowAll (s.take k) = true → k ≤ s.length → U.valid s = U.valid (s.drop k) := by
  induction k with
  | zero => intro s _ _; rfl
  | succ k ih =>
    intro s h hl
    match s, h, hl with
    | a :: r, h, hl =>
      simp only [lowAll, List.take_succ_cons, List.all_cons, Bool.and_eq_true, decide_eq_true_eq] at h
      have e : U.cls (U.by a) = (1, 0, 0) := by simp only [U.cls]; rw [if_pos (by simp only [U.by]; omega)]
      rw [U.valid_step (by simp) (by rw [U.rune_low e]; decide), U.rune_low e]
      exact ih r (by simpa [lowAll] using h.2) (by simpa using hl)
def U.tab (n : Int) : Option (Int × Int × Int) := match idx utf8First n with
  | some y => match idx utf8Accept (y.fdiv ((2 : Int) ^ min (Int.toNat 4) IntKind.u8.bits)) with
    | some z => some (IntKind.i64.wrap (bitop BinOp.and IntKind.u8 y 7), z)
    | none => none
  | none => none
def U.tv (c : Int × Int × Int) : Int × Int × Int := if c.1 = 0 then (1, 0, 0) else c
theorem U.tab_eq (a : UInt8) (h : 128 ≤ U.by a) : U.tab (U.by a) = some (U.tv (U.cls (U.by a))) := by
  have : ∀ n : Fin 256, 128 ≤ n.val → U.tab (n.val : Int) = some (U.tv (U.cls (n.val : Int))) := by decide +kernel
  exact this ⟨a.toNat, a.toNat_lt⟩ (by show 128 ≤ a.toNat; simp only [U.by] at h; omega)
theorem idx_get {α : Type} (s : List α) (i : Int) (n : Nat) (h : i = (n : Int)) : idx s i = s[n]? := by subst h; exact idx_nat s n
end Vm
namespace Vm
theorem dec_pos (t : List UInt8) : 1 ≤ (dec t).2 := by
  simp only [dec, Lib.decodeN]
  repeat' split
  all_goals simp
/-- where the first sign is that commands -/
def U.oddAt (s : List UInt8) : Nat → Nat → Int
  | 0, _ => -1
  | L + 1, p => if p < s.length then (if ((dec (s.drop p)).1 : Int) < 32 ∨ ((dec (s.drop p)).1 : Int) = 127 then p else U.oddAt s L (p + (dec (s.drop p)).2)) else -1
theorem U.oddAt_calm (s : List UInt8) : ∀ (L p : Nat), s.length ≤ p + L → p ≤ s.length → U.valid (s.drop p) = true → decide (0 ≤ U.oddAt s L p) = !U.calm (s.drop p) := by
  intro L
  induction L with
  | zero => intro p hp _ hv; rw [List.drop_eq_nil_of_le (by omega)]; rfl
  | succ L ih =>
    intro p hp hp' hv
    unfold U.oddAt
    by_cases h0 : p < s.length
    · have hne : s.drop p ≠ [] := by
        intro e
        have := congrArg List.length e
        simp only [List.length_drop, List.length_nil] at this; omega
      have hr : U.rune (s.drop p) ≠ 0 := by
        intro e
        rw [U.valid_bad hne e] at hv; cases hv
      obtain ⟨d1, d2⟩ := dec_rune (s.drop p) hr
      rw [if_pos h0]
      by_cases c1 : ((dec (s.drop p)).1 : Int) < 32 ∨ ((dec (s.drop p)).1 : Int) = 127
      · rw [if_pos c1]
        rw [← Bool.decide_or, decide_eq_true c1] at d2
        rw [U.calm_split _ (U.rune (s.drop p))]
        have : U.calm ((s.drop p).take (U.rune (s.drop p))) = false := by simpa using d2.symm
        rw [this]; simp
      · rw [if_neg c1, d1]
        rw [← Bool.decide_or, decide_eq_false c1] at d2
        have hle := U.rune_le (s.drop p)
        rw [List.length_drop] at hle
        rw [U.valid_step hne hr, List.drop_drop] at hv
        rw [ih (p + U.rune (s.drop p)) (by omega) (by omega) hv, U.calm_split (s.drop p) (U.rune (s.drop p)), List.drop_drop]
        have : U.calm ((s.drop p).take (U.rune (s.drop p))) = true := by simpa using d2.symm
        rw [this, Bool.true_and]
    · rw [if_neg h0, List.drop_eq_nil_of_le (by omega)]; rfl
theorem risesI_drop (l : List Int) (i : Nat) (h : i + 1 < l.length) : risesI (l.drop i) = (decide (l[i]'(by omega) < l[i + 1]) && risesI (l.drop (i + 1))) := by
  rw [List.drop_eq_getElem_cons (by omega : i < l.length), List.drop_eq_getElem_cons h]; rfl
theorem risesI_short {l : List Int} (h : l.length ≤ 1) : risesI l = true := by
  match l, h with
  | [], _ => rfl
  | [_], _ => rfl
theorem risesP_drop (l : List Pt) (i : Nat) (h : i + 1 < l.length) : risesP (l.drop i) = (decide (Pt.cmp l[i + 1] (l[i]'(by omega)) > 0) && risesP (l.drop (i + 1))) := by
  rw [List.drop_eq_getElem_cons (by omega : i < l.length), List.drop_eq_getElem_cons h]; rfl
theorem risesP_short {l : List Pt} (h : l.length ≤ 1) : risesP l = true := by
  match l, h with
  | [], _ => rfl
  | [_], _ => rfl
/-- where the first mark is that is no fermata -/
def notFour : List Int → Nat → Int
  | [], _ => -1
  | a :: l, i => if a = 4 then notFour l (i + 1) else i
theorem notFour_neg (l : List Int) : ∀ i, decide (0 ≤ notFour l i) = !(l.all fun m => decide (m = 4)) := by
  induction l with
  | nil => intro i; rfl
  | cons a l ih =>
    intro i
    by_cases h : a = 4
    · have e : notFour (a :: l) i = notFour l (i + 1) := if_pos h
      rw [e, ih, List.all_cons, decide_eq_true h, Bool.true_and]
    · have e : notFour (a :: l) i = (i : Int) := if_neg h
      rw [e, List.all_cons, decide_eq_false h]; simp
end Vm
namespace Vm
/-! ### Pitches, up -/
def Pt.upTo (p : Pt) (b : Int × Int) : Pt := ((p.line + b.1 + 7) % 7, p.num + b.2 - Pt.num ((p.line + b.1 + 7) % 7, 0, (p.line + b.1 + 7) / 7 - 1), (p.line + b.1 + 7) / 7 - 1)
def Pt.up (p : Pt) (b : Int × Int) : Option Pt := if p.right && decide (0 ≤ p.line + b.1 + 7) && (Pt.upTo p b).right then some (Pt.upTo p b) else none
def Pt.upV (p : Pt) (b : Int × Int) : Pt := (Pt.up p b).getD (0, 0, 0)
def Pt.upE (p : Pt) (b : Int × Int) : Int := if (Pt.up p b).isSome then 0 else 20
theorem Pt.up_some {p : Pt} {b : Int × Int} {q : Pt} (h : Pt.up p b = some q) : p.right = true ∧ 0 ≤ p.line + b.1 + 7 ∧ q = Pt.upTo p b ∧ q.right = true := by
  unfold Pt.up at h
  split at h
  · rename_i hc
    simp only [Bool.and_eq_true, decide_eq_true_eq] at hc
    cases h; exact ⟨hc.1.1, hc.1.2, rfl, hc.2⟩
  · cases h
theorem Pt.upTo_num (p : Pt) (b : Int × Int) : (Pt.upTo p b).num = p.num + b.2 := by simp only [Pt.upTo, Pt.num]; omega
theorem Pt.upTo_line (p : Pt) (b : Int × Int) : (Pt.upTo p b).line = p.line + b.1 := by simp only [Pt.upTo, Pt.line]; omega
theorem Pt.line_le {p : Pt} (h : p.right = true) : -7 ≤ p.line ∧ p.line ≤ 69 := by
  have := (Pt.right_iff p).1 h
  simp only [Pt.line]; omega
/-- a pitch is told by its line and number -/
theorem Pt.ext {p q : Pt} (hp : p.right = true) (hq : q.right = true) (hl : p.line = q.line) (hn : p.num = q.num) : p = q := by
  have a := (Pt.right_iff p).1 hp
  have b := (Pt.right_iff q).1 hq
  obtain ⟨p1, p2, p3⟩ := p
  obtain ⟨q1, q2, q3⟩ := q
  simp only [Pt.line] at hl
  have h1 : p1 = q1 := by simp only at a b; omega
  have h3 : p3 = q3 := by simp only at a b; omega
  subst h1 h3
  simp only [Pt.num] at hn
  have : p2 = q2 := by omega
  rw [this]
end Vm
namespace Vm
/-- if the first byte commands not, a right character does not -/
theorem one_odd (a : UInt8) (r : List UInt8) (h0 : U.rune (a :: r) ≠ 0) (hx : U.calm ((a :: r).take (U.rune (a :: r))) = false) (h1 : 32 ≤ U.by a) (h2 : U.by a ≠ 127) : False := by
  rcases U.cls_cases a with ⟨h3, e⟩ | ⟨h3, e⟩ | ⟨h3, e⟩ | ⟨h3, e⟩ | ⟨h3, e⟩ | ⟨h3, e⟩ | ⟨h3, e⟩ | ⟨h3, e⟩ | ⟨h3, e⟩
  · rw [U.rune_low e] at hx
    simp only [List.take_succ_cons, List.take_zero, U.calm, List.all_cons, List.all_nil, Bool.and_true] at hx
    rw [decide_eq_true ⟨h1, h2⟩] at hx; cases hx
  · exact h0 (U.rune_bad e)
  all_goals
    obtain ⟨d1, d2⟩ := dec_rune (a :: r) h0
    rw [hx] at d2
    match r, h0, hx, d1, d2 with
    | [], h0, hx, d1, d2 => exact h0 (U.rune_short1 e (by decide))
    | b :: r, h0, hx, d1, d2 =>
      first
      | (rw [U.rune_two e] at hx h0
         split at hx
         · rename_i hc
           rw [U.calm_big (by intro x hx; simp at hx; rcases hx with rfl | rfl <;> omega)] at hx; cases hx
         · rename_i hc; exact h0 (if_neg hc))
      | (match r, h0, hx, d1, d2 with
         | [], h0, hx, d1, d2 => exact h0 (U.rune_short2 e (by decide) (by decide))
         | c :: r, h0, hx, d1, d2 =>
           first
           | (rw [U.rune_three e] at hx h0
              split at hx
              · rename_i hc
                have c2 := of_decide_eq_true hc.2
                rw [U.calm_big (by intro x hx; simp at hx; rcases hx with rfl | rfl | rfl <;> omega)] at hx; cases hx
              · rename_i hc; exact h0 (if_neg hc))
           | (match r, h0, hx, d1, d2 with
              | [], h0, hx, d1, d2 => exact h0 (U.rune_short3 e (by decide) (by decide) (by decide))
              | d :: r, h0, hx, d1, d2 =>
                rw [U.rune_four e] at hx h0
                split at hx
                · rename_i hc
                  have c2 := of_decide_eq_true hc.2.1
                  have c3 := of_decide_eq_true hc.2.2
                  rw [U.calm_big (by intro x hx; simp at hx; rcases hx with rfl | rfl | rfl | rfl <;> omega)] at hx; cases hx
                · rename_i hc; exact h0 (if_neg hc)))
end Vm
namespace Vm
theorem Pt.up_bounds {p : Pt} {b : Int × Int} {q : Pt} (h : Pt.up p b = some q) : -76 ≤ b.1 ∧ b.1 ≤ 76 ∧ -127 ≤ b.2 ∧ b.2 ≤ 127 := by
  obtain ⟨h1, h2, rfl, h4⟩ := Pt.up_some h
  have a := Pt.line_le h1
  have c := Pt.line_le h4
  have d := (Pt.right_iff p).1 h1
  have e := (Pt.right_iff _).1 h4
  rw [Pt.upTo_line] at c
  have f := Pt.upTo_num p b
  omega
theorem Pt.up_none {p : Pt} {b : Int × Int} (h : ¬(-76 ≤ b.1 ∧ b.1 ≤ 76 ∧ -127 ≤ b.2 ∧ b.2 ≤ 127)) : Pt.up p b = none := by
  cases hq : Pt.up p b with
  | none => rfl
  | some q => exact absurd (Pt.up_bounds hq) h
theorem Pt.up_wrong {p : Pt} {b : Int × Int} (h : p.right = false) : Pt.up p b = none := by
  unfold Pt.up; rw [h]; rfl
/-- a pitch up is the one of its line and number -/
theorem Pt.up_eq {p q : Pt} {b : Int × Int} (hp : p.right = true) (hq : q.right = true) (hl : q.line = p.line + b.1) (hn : q.num = p.num + b.2) : Pt.up p b = some q := by
  have l := Pt.line_le hq
  have e1 : (p.line + b.1 + 7) % 7 = q.1 ∧ (p.line + b.1 + 7) / 7 - 1 = q.2.2 := by
    have r := (Pt.right_iff q).1 hq
    simp only [Pt.line] at hl ⊢
    omega
  have e : Pt.upTo p b = q := by
    obtain ⟨q1, q2, q3⟩ := q
    simp only [Pt.upTo, e1.1, e1.2]
    simp only [Pt.num] at hn ⊢
    congr 2
    omega
  unfold Pt.up
  rw [e, hp, hq, decide_eq_true (by omega)]; rfl
end Vm
namespace Vm
/-! ### Events -/
abbrev Ev.mk (x : Ev) : List Int := x.2.2.2.2.2.2.2.1
def Ev.okm (x : Ev) : Bool := decide ((Ev.mk x).length < 4611686018427387904)
def Ev.tail (x : Ev) : Bool := x.pitches.all Pt.right && risesP x.pitches
def Ev.shape (x : Ev) : Bool := if x.kind = 0 then decide (x.pitches.length = 0) && (decide (x.word = []) && x.marks.all (fun m => decide (m = 4)))
   else decide (x.kind = 1) && (decide (1 ≤ x.pitches.length) && (decide (x.pitches.length ≤ 8) && Ev.tail x))
theorem Ev.right_eq (x : Ev) : x.right = (x.val.right && (plain x.word && (marked x.marks && (decide (x.ties.length = x.pitches.length) && Ev.shape x)))) := rfl
def firstFour : List Int → Bool
  | [] => true
  | a :: _ => decide (a = 4)
theorem marked_four {l : List Int} (h : marked l = true) : (l.all fun m => decide (m = 4)) = firstFour l := by
  match l, h with
  | [], _ => rfl
  | [a], _ => simp [firstFour]
  | a :: b :: r, h =>
    simp only [marked, risesI, List.all_cons, Bool.and_eq_true, decide_eq_true_eq] at h
    simp only [List.all_cons, firstFour]
    rw [decide_eq_false (p := a = 4) (by omega)]; rfl
end Vm
namespace Vm
/-! ### Fractions -/
def gcdI (a b : Int) : Int := (Nat.gcd a.toNat b.toNat : Nat)
def absI (a : Int) : Int := (a.natAbs : Nat)
def i64B (a : Int) : Bool := decide (-9223372036854775808 ≤ a ∧ a ≤ 9223372036854775807)
def posB (a b : Int) : Bool := decide (0 ≤ a ∧ 0 ≤ b)
theorem gcdI_zero {a : Int} (h : 0 ≤ a) : gcdI a 0 = a := by simp [gcdI]; omega
theorem gcdI_step {a b : Int} (ha : 0 ≤ a) (hb : 0 < b) : gcdI a b = gcdI b (a.tmod b) := by
  unfold gcdI
  rw [Int.tmod_eq_emod_of_nonneg ha, Nat.gcd_comm a.toNat, Nat.gcd_rec b.toNat a.toNat, Nat.gcd_comm]
  congr 2
  have : (a % b).toNat = a.toNat % b.toNat := by
    obtain ⟨n, rfl⟩ := Int.eq_ofNat_of_zero_le ha
    obtain ⟨m, rfl⟩ := Int.eq_ofNat_of_zero_le (Int.le_of_lt hb)
    simp only [Int.toNat_natCast]
    rw [← Int.natCast_emod, Int.toNat_natCast]
  rw [this]
end Vm
namespace Vm
def Rt.of (a b : Int) : (Int × Int) × Int :=
  if b = 0 then ((0, 0), 11)
  else if (1000000000 : Int) < (if absI b / gcdI (absI a) (absI b) > absI a / gcdI (absI a) (absI b) then absI b / gcdI (absI a) (absI b) else absI a / gcdI (absI a) (absI b)) then ((0, 0), 10)
  else ((if (decide (a < 0) == decide (b < 0)) = true then absI a / gcdI (absI a) (absI b) else -(absI a / gcdI (absI a) (absI b)), absI b / gcdI (absI a) (absI b)), 0)
theorem absI_nonneg (a : Int) : 0 ≤ absI a := by simp [absI]
theorem gcdI_pos {a b : Int} (h : b ≠ 0) : 0 < gcdI (absI a) (absI b) := by
  simp only [gcdI, absI, Int.toNat_natCast]
  have : 0 < Nat.gcd a.natAbs b.natAbs := Nat.gcd_pos_of_pos_right _ (Int.natAbs_pos.2 h)
  omega
theorem div_small {a g : Int} (ha : 0 ≤ a) (hg : 0 < g) : 0 ≤ a / g ∧ a / g ≤ a := ⟨Int.ediv_nonneg ha (Int.le_of_lt hg), Int.ediv_le_self _ ha⟩
def hasTrue : List Bool → Bool
  | [] => false
  | a :: l => a || hasTrue l
def idxTrue : List Bool → Nat → Int
  | [], _ => -1
  | a :: l, i => if a = true then i else idxTrue l (i + 1)
theorem idxTrue_has (l : List Bool) : ∀ i, decide (0 ≤ idxTrue l i) = hasTrue l := by
  induction l with
  | nil => intro i; rfl
  | cons a l ih =>
    intro i
    cases a with
    | true =>
      have e : idxTrue (true :: l) i = (i : Int) := if_pos rfl
      rw [e]; simp [hasTrue]
    | false =>
      have e : idxTrue (false :: l) i = idxTrue l (i + 1) := if_neg (by decide)
      rw [e, ih]; rfl
end Vm

/- Events, up; how long values are. -/
open Go
namespace Vm
def Ev.withP (x : Ev) (ps : List Pt) : Ev := (x.1, ps, x.2.2.1, x.2.2.2.1, x.2.2.2.2.1, x.2.2.2.2.2.1, x.2.2.2.2.2.2.1, x.2.2.2.2.2.2.2.1, x.2.2.2.2.2.2.2.2)
def zEv : Ev := (0, [], [], 0, 0, 0, 0, [], [])
def upAll (b : Int × Int) : List Pt → Option (List Pt)
  | [] => some []
  | p :: l => match Pt.up p b with
    | none => none
    | some q => match upAll b l with
      | none => none
      | some r => some (q :: r)
def Ev.upTail (x : Ev) (b : Int × Int) (done rest : List Pt) : Ev × Int := match upAll b rest with
    | none => (zEv, 20)
    | some ps => if (x.withP (done ++ ps)).right then (x.withP (done ++ ps), 0) else (zEv, 60)
def Ev.up (x : Ev) (b : Int × Int) : Ev × Int := if x.right then Ev.upTail x b [] x.2.1 else (zEv, 60)
theorem Ev.right_len {x : Ev} (h : x.right = true) : x.pitches.length ≤ 8 ∧ x.ties.length = x.pitches.length := by
  rw [Ev.right_eq] at h
  simp only [Bool.and_eq_true, decide_eq_true_eq] at h
  obtain ⟨_, _, _, h4, h5⟩ := h
  refine ⟨?_, h4⟩
  unfold Ev.shape at h5
  split at h5
  · simp only [Bool.and_eq_true, decide_eq_true_eq] at h5; omega
  · simp only [Bool.and_eq_true, decide_eq_true_eq] at h5; omega
theorem Ev.upTail_nil (x : Ev) (b : Int × Int) (done : List Pt) : Ev.upTail x b done [] = if (x.withP done).right then (x.withP done, 0) else (zEv, 60) := by simp [Ev.upTail, upAll]
theorem Ev.upTail_none (x : Ev) (b : Int × Int) (done rest : List Pt) (p : Pt) (h : Pt.up p b = none) : Ev.upTail x b done (p :: rest) = (zEv, 20) := by simp [Ev.upTail, upAll, h]
theorem Ev.upTail_some (x : Ev) (b : Int × Int) (done rest : List Pt) (p q : Pt) (h : Pt.up p b = some q) : Ev.upTail x b done (p :: rest) = Ev.upTail x b (done ++ [q]) rest := by
  simp only [Ev.upTail, upAll, h]
  cases upAll b rest <;> simp
theorem Pt.upE_zero {p : Pt} {b : Int × Int} : Pt.upE p b = 0 ↔ (Pt.up p b).isSome := by
  unfold Pt.upE; split <;> simp_all
/-! ### Values -/
def Vl.len (v : Vl) : (Int × Int) × Int := if v.right then
    (if 0 < v.2.2.1 then Rt.of ((if v.2.1 = 0 then 1 else if v.2.1 = 1 then 3 else 7) * v.2.2.2) ((if v.2.1 = 0 then 1 else if v.2.1 = 1 then 2 else 4) * 2 ^ v.1.toNat * v.2.2.1)
     else Rt.of (if v.2.1 = 0 then 1 else if v.2.1 = 1 then 3 else 7) ((if v.2.1 = 0 then 1 else if v.2.1 = 1 then 2 else 4) * 2 ^ v.1.toNat)) else ((0, 0), 40)
end Vm
namespace Vm
theorem upAll_get {b : Int × Int} : ∀ {l ps : List Pt}, upAll b l = some ps → ps.length = l.length ∧ ∀ (k : Nat) (p : Pt), l[k]? = some p → ∃ q, Pt.up p b = some q ∧ ps[k]? = some q
  | [], ps, h => by cases h; exact ⟨rfl, fun k p hp => by simp at hp⟩
  | p :: l, ps, h => by
    simp only [upAll] at h
    cases hu : Pt.up p b with
    | none => rw [hu] at h; cases h
    | some q =>
      rw [hu] at h
      cases ha : upAll b l with
      | none => rw [ha] at h; cases h
      | some r =>
        rw [ha] at h
        cases h
        obtain ⟨h1, h2⟩ := upAll_get ha
        refine ⟨by simp [h1], fun k p' hp => ?_⟩
        cases k with
        | zero => simp at hp; subst hp; exact ⟨q, hu, rfl⟩
        | succ k => simp at hp; obtain ⟨q', e1, e2⟩ := h2 k p' hp; exact ⟨q', e1, by simpa using e2⟩
theorem Pt.up_back {p q : Pt} {b : Int × Int} (h : Pt.up p b = some q) : Pt.up q (-b.1, -b.2) = some p := by
  obtain ⟨h1, h2, rfl, h4⟩ := Pt.up_some h
  exact Pt.up_eq h4 h1 (by rw [Pt.upTo_line]; omega) (by rw [Pt.upTo_num]; omega)
theorem upAll_back {b : Int × Int} : ∀ {l ps : List Pt}, upAll b l = some ps → upAll (-b.1, -b.2) ps = some l
  | [], ps, h => by cases h; rfl
  | p :: l, ps, h => by
    simp only [upAll] at h
    cases hu : Pt.up p b with
    | none => rw [hu] at h; cases h
    | some q =>
      rw [hu] at h
      cases ha : upAll b l with
      | none => rw [ha] at h; cases h
      | some r =>
        rw [ha] at h
        cases h
        simp only [upAll, Pt.up_back hu, upAll_back ha]
theorem Ev.up_cases (x : Ev) (b : Int × Int) : (x.right = true ∧ ∃ ps, upAll b x.2.1 = some ps ∧ (x.withP ps).right = true ∧ Ev.up x b = (x.withP ps, 0)) ∨ ((Ev.up x b).1 = zEv ∧ (Ev.up x b).2 ≠ 0) := by
  unfold Ev.up
  cases hr : x.right with
  | false => exact .inr ⟨rfl, by show (60 : Int) ≠ 0; decide⟩
  | true =>
    rw [if_pos rfl]
    unfold Ev.upTail
    cases hu : upAll b x.2.1 with
    | none => exact .inr ⟨rfl, by show (20 : Int) ≠ 0; decide⟩
    | some ps =>
      simp only [List.nil_append]
      by_cases hw : (x.withP ps).right = true
      · rw [if_pos hw]; exact .inl ⟨by simp, ps, by simp, hw, rfl⟩
      · rw [if_neg hw]; exact .inr ⟨rfl, by show (60 : Int) ≠ 0; decide⟩
theorem Ev.small_of {x : Ev} (h1 : x.2.1.length ≤ 1000) (h2 : x.2.2.1.length ≤ 1000) (h3 : x.2.2.2.2.2.2.2.1.length ≤ 1000) : Ev.small x = true := by
  simp only [Ev.small, Bool.and_eq_true, decide_eq_true_eq]; omega
theorem Ev.up_small {x : Ev} (b : Int × Int) (h1 : x.2.1.length ≤ 1000) (h2 : x.2.2.1.length ≤ 1000) (h3 : x.2.2.2.2.2.2.2.1.length ≤ 1000) : (Ev.up x b).1.small = true ∧ (Ev.up x b).1.2.2.2.2.2.2.2.1.length ≤ 1000 := by
  rcases Ev.up_cases x b with ⟨_, ps, hu, _, e⟩ | ⟨e, _⟩
  · rw [e]
    exact ⟨Ev.small_of (x := x.withP ps) (by have := (upAll_get hu).1; show ps.length ≤ 1000; omega) h2 h3, h3⟩
  · rw [e]; exact ⟨by decide, by decide⟩
theorem Ev.up_back {x : Ev} {b : Int × Int} {ps : List Pt} (hx : x.right = true) (hu : upAll b x.2.1 = some ps) (hw : (x.withP ps).right = true) (b' : Int × Int) (hb : x.2.1 ≠ [] → b' = (-b.1, -b.2)) : Ev.up (x.withP ps) b' = (x, 0) := by
  have e : upAll b' ps = some x.2.1 := by
    by_cases h0 : x.2.1 = []
    · rw [h0] at hu ⊢; cases hu; rfl
    · rw [hb h0]; exact upAll_back hu
  unfold Ev.up
  rw [hw, if_pos rfl]
  have e2 : Ev.upTail (x.withP ps) b' [] (x.withP ps).2.1 = (x, 0) := by
    unfold Ev.upTail
    rw [show (x.withP ps).2.1 = ps from rfl, e]
    simp only [List.nil_append]
    rw [show (x.withP ps).withP x.2.1 = x from rfl, hx, if_pos rfl]
  exact e2
theorem plain_nil : plain [] = true := by unfold plain; rw [U.valid_nil]; rfl
end Vm

/- Ratios: what is reckoned of them, in plain words. -/
open Go
namespace Vm
abbrev Rat2 := Int × Int
def Rt.right (a : Int × Int) : Bool := decide (1 ≤ a.2) && (decide (absI a.1 ≤ 1000000000) && (decide (a.2 ≤ 1000000000) && decide (gcdI (absI a.1) (absI a.2) = 1)))
def Rt.i64 (a : Int × Int) : Bool := i64B a.1 && i64B a.2
theorem Rt.right_iff (a : Int × Int) : Rt.right a = true ↔ (1 ≤ a.2 ∧ absI a.1 ≤ 1000000000 ∧ a.2 ≤ 1000000000 ∧ gcdI (absI a.1) (absI a.2) = 1) := by simp [Rt.right]
theorem Rt.right_i64 {a : Int × Int} (h : Rt.right a = true) : Rt.i64 a = true := by
  rw [Rt.right_iff] at h
  simp only [absI] at h
  simp only [Rt.i64, i64B, Bool.and_eq_true, decide_eq_true_eq]; omega
theorem Rt.right_bounds {a : Int × Int} (h : Rt.right a = true) : 1 ≤ a.2 ∧ a.2 ≤ 1000000000 ∧ -1000000000 ≤ a.1 ∧ a.1 ≤ 1000000000 := by
  rw [Rt.right_iff] at h
  simp only [absI] at h
  omega
def Rt.add (a b : Int × Int) : (Int × Int) × Int := if Rt.right a && Rt.right b then Rt.of (a.1 * b.2 + b.1 * a.2) (a.2 * b.2) else ((0, 0), 10)
def Rt.sub (a b : Int × Int) : (Int × Int) × Int := if Rt.right a && Rt.right b then Rt.of (a.1 * b.2 - b.1 * a.2) (a.2 * b.2) else ((0, 0), 10)
def Rt.cmp (a b : Int × Int) : Int := if Rt.right a && Rt.right b then sgn (a.1 * b.2) (b.1 * a.2) else 0
theorem mul_bound {x y : Int} {m n : Int} (h1 : -m ≤ x) (h2 : x ≤ m) (h3 : -n ≤ y) (h4 : y ≤ n) : -(m * n) ≤ x * y ∧ x * y ≤ m * n := by
  have a : 0 ≤ m - x := by omega
  have b : 0 ≤ m + x := by omega
  have c : 0 ≤ n - y := by omega
  have d : 0 ≤ n + y := by omega
  have e1 := Int.mul_nonneg a c
  have e2 := Int.mul_nonneg b d
  have e3 := Int.mul_nonneg a d
  have e4 := Int.mul_nonneg b c
  constructor <;> grind
theorem Rt.prod {a b : Int × Int} (ha : Rt.right a = true) (hb : Rt.right b = true) : -1000000000000000000 ≤ a.1 * b.2 ∧ a.1 * b.2 ≤ 1000000000000000000 := by
  have h1 := Rt.right_bounds ha
  have h2 := Rt.right_bounds hb
  have := mul_bound (x := a.1) (y := b.2) (m := 1000000000) (n := 1000000000) (by omega) (by omega) (by omega) (by omega)
  omega
theorem Rt.prod2 {a b : Int × Int} (ha : Rt.right a = true) (hb : Rt.right b = true) : -1000000000000000000 ≤ a.2 * b.2 ∧ a.2 * b.2 ≤ 1000000000000000000 := by
  have h1 := Rt.right_bounds ha
  have h2 := Rt.right_bounds hb
  have := mul_bound (x := a.2) (y := b.2) (m := 1000000000) (n := 1000000000) (by omega) (by omega) (by omega) (by omega)
  omega
end Vm
namespace Vm
/-! ### What is tied -/
abbrev beqP : Pt → Pt → Bool := (Ks.cons (K.int IntKind.i64) (Ks.cons (K.int IntKind.i64) (Ks.cons (K.int IntKind.i64) Ks.nil))).beq
theorem beqP_eq (p q : Pt) : beqP p q = decide (p = q) := by
  obtain ⟨a, b, c⟩ := p
  obtain ⟨d, e, f⟩ := q
  show (decide (a = d) && (decide (b = e) && decide (c = f))) = _
  by_cases h1 : a = d <;> by_cases h2 : b = e <;> by_cases h3 : c = f <;> simp [h1, h2, h3]
def tieRun : List Pt → List Bool → List (Pt × Bool) → List (Pt × Bool)
  | p :: ps, t :: ts, es => tieRun ps ts (bif t then setKey beqP p true es else es)
  | _, _, es => es
def Ev.tm (e : Ev) : List (Pt × Bool) := tieRun e.pitches e.ties []
theorem findKey_set (p q : Pt) : ∀ es : List (Pt × Bool), findKey beqP q (setKey beqP p true es) = if q = p then some true else findKey beqP q es
  | [] => by simp only [setKey, findKey, beqP_eq]; by_cases h : q = p <;> simp [h]
  | (a, b) :: es => by
    simp only [setKey, beqP_eq]
    by_cases h1 : p = a
    · subst h1
      simp only [decide_true, if_true, findKey, beqP_eq]
      by_cases h : q = p <;> simp [h]
    · simp only [h1, decide_false, Bool.false_eq_true, if_false, findKey, beqP_eq]
      by_cases h2 : q = a
      · subst h2
        have : ¬ q = p := fun e => h1 e.symm
        simp [this]
      · simp only [h2, decide_false, Bool.false_eq_true, if_false]
        exact findKey_set p q es
/-- is a pitch tied? -/
def tiedIn : List Pt → List Bool → Pt → Bool
  | p :: ps, t :: ts, q => (t && decide (q = p)) || tiedIn ps ts q
  | _, _, _ => false
theorem findKey_tie (q : Pt) : ∀ (ps : List Pt) (ts : List Bool) (es : List (Pt × Bool)), (∀ x, findKey beqP q es = some x → x = true) → findKey beqP q (tieRun ps ts es) = if tiedIn ps ts q || (findKey beqP q es).isSome then some true else none
  | [], ts, es, h => by
    simp only [tieRun, tiedIn, Bool.false_or]
    cases hf : findKey beqP q es with
    | none => rfl
    | some x => rw [h x hf]; rfl
  | p :: ps, [], es, h => by
    simp only [tieRun, tiedIn, Bool.false_or]
    cases hf : findKey beqP q es with
    | none => rfl
    | some x => rw [h x hf]; rfl
  | p :: ps, t :: ts, es, h => by
    simp only [tieRun, tiedIn]
    cases t with
    | false => simp only [cond_false, Bool.false_and, Bool.false_or]; exact findKey_tie q ps ts es h
    | true =>
      simp only [cond_true, Bool.true_and]
      rw [findKey_tie q ps ts _ (fun x hx => by
        rw [findKey_set] at hx
        split at hx
        · cases hx; rfl
        · exact h x hx), findKey_set]
      by_cases hq : q = p
      · simp [hq]
      · simp [hq]
def Ev.tied (e : Ev) (q : Pt) : Bool := tiedIn e.pitches e.ties q
theorem Ev.tm_find (e : Ev) (q : Pt) : findKey beqP q e.tm = if e.tied q then some true else none := by
  unfold Ev.tm
  rw [findKey_tie q _ _ [] (fun x hx => by cases hx)]
  simp only [findKey, Option.isSome_none, Bool.or_false]
  rfl
theorem Ev.tm_get (e : Ev) (q : Pt) : (findKey beqP q e.tm).getD false = e.tied q := by
  rw [Ev.tm_find]; cases e.tied q <;> rfl
theorem setKey_mem {p : Pt} {x : Pt × Bool} : ∀ {es : List (Pt × Bool)}, x ∈ setKey beqP p true es → x.1 = p ∨ x ∈ es
  | [], h => by simp only [setKey, List.mem_singleton] at h; subst h; exact .inl rfl
  | (a, b) :: es, h => by
    simp only [setKey] at h
    split at h
    · rcases List.mem_cons.1 h with rfl | h
      · exact .inl rfl
      · exact .inr (List.mem_cons_of_mem _ h)
    · rcases List.mem_cons.1 h with rfl | h
      · exact .inr (by simp)
      · exact (setKey_mem h).imp id (List.mem_cons_of_mem _)
theorem setKey_has (p : Pt) : ∀ (es : List (Pt × Bool)), ∃ b, (p, b) ∈ setKey beqP p true es
  | [] => ⟨true, by simp [setKey]⟩
  | (a, b) :: es => by
    simp only [setKey]
    split
    · exact ⟨true, by simp⟩
    · obtain ⟨c, hc⟩ := setKey_has p es
      exact ⟨c, List.mem_cons_of_mem _ hc⟩
theorem setKey_keeps {p : Pt} {x : Pt × Bool} : ∀ {es : List (Pt × Bool)}, x ∈ es → ∃ b, (x.1, b) ∈ setKey beqP p true es
  | (a, b) :: es, h => by
    simp only [setKey]
    split
    · rename_i he
      rw [beqP_eq] at he
      have := of_decide_eq_true he
      subst this
      rcases List.mem_cons.1 h with rfl | h
      · exact ⟨true, by simp⟩
      · exact ⟨x.2, List.mem_cons_of_mem _ h⟩
    · rcases List.mem_cons.1 h with rfl | h
      · exact ⟨b, by simp⟩
      · obtain ⟨c, hc⟩ := setKey_keeps h
        exact ⟨c, List.mem_cons_of_mem _ hc⟩
theorem tie_keys (q : Pt) : ∀ (ps : List Pt) (ts : List Bool) (es : List (Pt × Bool)), (∃ b, (q, b) ∈ tieRun ps ts es) ↔ (tiedIn ps ts q = true ∨ ∃ b, (q, b) ∈ es)
  | [], ts, es => by simp [tieRun, tiedIn]
  | p :: ps, [], es => by simp [tieRun, tiedIn]
  | p :: ps, t :: ts, es => by
    simp only [tieRun, tiedIn]
    rw [tie_keys q ps ts]
    cases t with
    | false => simp
    | true =>
      simp only [cond_true, Bool.true_and, Bool.or_eq_true, decide_eq_true_eq]
      constructor
      · rintro (h | ⟨b, hb⟩)
        · exact .inl (.inr h)
        · rcases setKey_mem hb with h | h
          · exact .inl (.inl h)
          · exact .inr ⟨b, h⟩
      · rintro ((h | h) | ⟨b, hb⟩)
        · subst h; exact .inr (setKey_has q es)
        · exact .inl h
        · exact .inr (setKey_keeps hb)
/-- what is gone through of what is tied -/
theorem Ev.tm_keys (e : Ev) (q : Pt) : (∃ b, (q, b) ∈ e.tm) ↔ e.tied q = true := by
  unfold Ev.tm; rw [tie_keys]; simp [Ev.tied]
/-- the length of an event -/
def Ev.len (e : Ev) : (Int × Int) × Int := if e.right then Vl.len e.val else ((0, 0), 60)
def ptIdx (p : Pt) : List Pt → Nat → Int
  | [], _ => -1
  | q :: l, i => if p = q then i else ptIdx p l (i + 1)
theorem ptIdx_has (p : Pt) : ∀ (l : List Pt) (i : Nat), decide (0 ≤ ptIdx p l i) = l.contains p
  | [], i => rfl
  | q :: l, i => by
    simp only [ptIdx, List.contains_cons]
    by_cases h : p = q
    · subst h; simp
    · have := ptIdx_has p l (i + 1)
      simp only [if_neg h, this]; simp [h]
end Vm

/- Voices: what is reckoned of them, in plain words. -/
open Go
namespace Vm
abbrev Vo := List Ev
/-- where the first event stands that is not right -/
def badI : List Ev → Nat → Int
  | [], _ => -1
  | e :: l, i => if e.right then badI l (i + 1) else i
def Vo.ok (l : List Ev) : Bool := decide (l.length < 4611686018427387904) && l.all Ev.okm
theorem badI_all (l : List Ev) : ∀ i, decide (0 ≤ badI l i) = !(l.all Ev.right) := by
  induction l with
  | nil => intro i; rfl
  | cons e l ih =>
    intro i
    simp only [badI, List.all_cons]
    by_cases h : e.right = true
    · have := ih (i + 1)
      simp only [h, if_true, Bool.true_and]; exact this
    · simp [h]
theorem badI_neg {l : List Ev} (h : l.all Ev.right = true) : ∀ i, badI l i = -1 := by
  induction l with
  | nil => intro i; rfl
  | cons e l ih =>
    intro i
    simp only [List.all_cons, Bool.and_eq_true] at h
    simp only [badI, h.1, if_true]
    exact ih h.2 (i + 1)
/-- are the tied notes of one event in the next? -/
def joined (a b : Ev) : Bool := a.tm.all fun y => b.pitches.contains y.1
/-- where the first tie stands that leads to nothing -/
def tieI : List Ev → Nat → Int
  | a :: b :: r, i => if joined a b then tieI (b :: r) (i + 1) else i
  | _, _ => -1
def Vo.chk (l : Vo) : Int × Int := if 64 < l.length then (64, 70) else if 0 ≤ badI l 0 then (badI l 0, 60) else if 0 ≤ tieI l 0 then (tieI l 0, 71) else (0, 0)
theorem allOf_const {α R : Type} {l : List α} {f : Nat → α → Option R} {o : Option R} (hl : l ≠ []) (h : ∀ i e, l[i]? = some e → f i e = o) : allOf l f = o := by
  cases o with
  | some r => exact allOf_eq hl h
  | none =>
    match l, hl with
    | a :: l, _ =>
      have h0 := h 0 a rfl
      cases he : allOf (a :: l) f with
      | none => rfl
      | some r =>
        have := allOf_spec he 0 a rfl
        rw [h0] at this
        cases this
theorem all_erase {α : Type} {l : List α} {p : α → Bool} {i : Nat} {x : α} (h : l[i]? = some x) : l.all p = (p x && (l.eraseIdx i).all p) := by
  induction l generalizing i with
  | nil => cases h
  | cons a l ih =>
    cases i with
    | zero =>
      simp only [List.getElem?_cons_zero, Option.some.injEq] at h
      subst h; rfl
    | succ i =>
      simp only [List.getElem?_cons_succ] at h
      simp only [List.all_cons, List.eraseIdx_cons_succ, ih h]
      cases p a <;> cases p x <;> rfl
theorem Rt.of_i64 (a b : Int) : Rt.i64 (Rt.of a b).1 = true := by
  have ha := absI_nonneg a
  have hb := absI_nonneg b
  unfold Rt.of
  by_cases h0 : b = 0
  · rw [if_pos h0]; rfl
  · have hg := gcdI_pos (a := a) h0
    have d1 := div_small ha hg
    have d2 := div_small hb hg
    rw [if_neg h0]
    by_cases h1 : (1000000000 : Int) < (if absI b / gcdI (absI a) (absI b) > absI a / gcdI (absI a) (absI b) then absI b / gcdI (absI a) (absI b) else absI a / gcdI (absI a) (absI b))
    · rw [if_pos h1]; rfl
    · rw [if_neg h1]
      simp only [Rt.i64, i64B, Bool.and_eq_true, decide_eq_true_eq]
      split at h1 <;> split <;> omega
theorem Vl.len_i64 (v : Vl) : Rt.i64 (Vl.len v).1 = true := by
  unfold Vl.len
  repeat' split
  all_goals first | rfl | exact Rt.of_i64 _ _
theorem Ev.len_i64 (e : Ev) : Rt.i64 (Ev.len e).1 = true := by
  unfold Ev.len
  split
  · exact Vl.len_i64 _
  · rfl
theorem Rt.add_i64 (a b : Int × Int) : Rt.i64 (Rt.add a b).1 = true := by
  unfold Rt.add
  split
  · exact Rt.of_i64 _ _
  · rfl
theorem Rt.sub_i64 (a b : Int × Int) : Rt.i64 (Rt.sub a b).1 = true := by
  unfold Rt.sub
  split
  · exact Rt.of_i64 _ _
  · rfl
/-- the beginnings after t -/
def sumsF (t : Int × Int) : List Ev → List (Int × Int) × Int
  | [] => ([], 0)
  | e :: r => if (Rt.add t (Ev.len e).1).2 = 0 then (if (sumsF (Rt.add t (Ev.len e).1).1 r).2 = 0 then ((Rt.add t (Ev.len e).1).1 :: (sumsF (Rt.add t (Ev.len e).1).1 r).1, 0) else ([], (sumsF (Rt.add t (Ev.len e).1).1 r).2)) else ([], (Rt.add t (Ev.len e).1).2)
def Vo.sums (l : Vo) : List (Int × Int) × Int := if (Vo.chk l).2 = 0 then (if (sumsF (0, 1) l).2 = 0 then ((0, 1) :: (sumsF (0, 1) l).1, 0) else ([], (sumsF (0, 1) l).2)) else ([], (Vo.chk l).2)
theorem sumsF_len : ∀ {l : List Ev} {t : Int × Int}, (sumsF t l).2 = 0 → (sumsF t l).1.length = l.length
  | [], t, _ => rfl
  | e :: r, t, h => by
    simp only [sumsF] at h ⊢
    split
    · rename_i h1
      rw [if_pos h1] at h
      split
      · rename_i h2; simp [sumsF_len h2]
      · rename_i h2; rw [if_neg h2] at h; exact absurd h h2
    · rename_i h1; rw [if_neg h1] at h; exact absurd h h1
theorem sumsF_bad : ∀ {l : List Ev} {t : Int × Int}, (sumsF t l).2 ≠ 0 → (sumsF t l).1 = []
  | [], t, h => rfl
  | e :: r, t, h => by
    simp only [sumsF] at h ⊢
    split
    · rename_i h1
      rw [if_pos h1] at h
      split
      · rename_i h2; rw [if_pos h2] at h; exact absurd rfl h
      · rfl
    · rfl
theorem sumsF_i64 : ∀ {l : List Ev} {t : Int × Int}, ∀ x ∈ (sumsF t l).1, Rt.i64 x = true
  | [], t, x, h => by cases h
  | e :: r, t, x, h => by
    simp only [sumsF] at h
    split at h
    · split at h
      · rcases List.mem_cons.1 h with rfl | h
        · exact Rt.add_i64 _ _
        · exact sumsF_i64 x h
      · cases h
    · cases h
theorem Vo.chk_small {l : Vo} (h : (Vo.chk l).2 = 0) : l.length ≤ 64 ∧ l.all Ev.right = true := by
  unfold Vo.chk at h
  split at h
  · cases h
  · split at h
    · cases h
    · rename_i h1 h2
      refine ⟨by omega, ?_⟩
      have := badI_all l 0
      rw [decide_eq_false h2] at this
      cases he : l.all Ev.right with
      | true => rfl
      | false => rw [he] at this; cases this
def Vo.starts (l : Vo) : List (Int × Int) × Int := ((Vo.sums l).1.take l.length, (Vo.sums l).2)
def Vo.len (l : Vo) : (Int × Int) × Int := if (Vo.sums l).2 = 0 then ((Vo.sums l).1[l.length]?.getD (0, 0), 0) else ((0, 0), (Vo.sums l).2)
def atI (t : Int × Int) : List (Int × Int) → Nat → Int × Bool
  | a :: b :: r, i => if Rt.cmp a t ≤ 0 then (if Rt.cmp t b < 0 then (i, true) else atI t (b :: r) (i + 1)) else atI t (b :: r) (i + 1)
  | _, _ => (0, false)
def Vo.at (l : Vo) (t : Int × Int) : Int × Bool := if (Vo.sums l).2 = 0 then (if Rt.right t then atI t (Vo.sums l).1 0 else (0, false)) else (0, false)
theorem Vo.sums_len {l : Vo} (h : (Vo.sums l).2 = 0) : (Vo.sums l).1.length = l.length + 1 ∧ (Vo.chk l).2 = 0 := by
  unfold Vo.sums at h ⊢
  by_cases h1 : (Vo.chk l).2 = 0
  · rw [if_pos h1] at h ⊢
    by_cases h2 : (sumsF (0, 1) l).2 = 0
    · rw [if_pos h2] at h ⊢; exact ⟨by simp [sumsF_len h2], h1⟩
    · rw [if_neg h2] at h; exact absurd h h2
  · rw [if_neg h1] at h; exact absurd h h1
theorem Vo.sums_i64 {l : Vo} : ∀ x ∈ (Vo.sums l).1, Rt.i64 x = true := by
  intro x hx
  unfold Vo.sums at hx
  split at hx
  · split at hx
    · rcases List.mem_cons.1 hx with rfl | hx
      · rfl
      · exact sumsF_i64 x hx
    · cases hx
  · cases hx
/-- meters -/
abbrev Me := Int × Int × List Int
def grpLeft (n : Int) : List Int → Option Int
  | [] => some n
  | g :: r => if g < 1 then none else if n < g then none else grpLeft (n - g) r
def Me.pow (d : Int) : Bool := decide (bitop BinOp.and IntKind.i64 d (IntKind.i64.wrap (d - 1)) = 0)
def Me.right (m : Me) : Bool := if m.1 < 1 then false else if 32 < m.1 then false else if m.2.1 < 1 then false else if 64 < m.2.1 then false else if Me.pow m.2.1 then (match grpLeft m.1 m.2.2 with
  | none => false
  | some n => decide (n = 0) || decide (m.2.2.length = 0)) else false
def voSame : List Ev → List Ev → Bool
  | [], [] => true
  | a :: r, b :: s => Ev.same a b && voSame r s
  | _, _ => false
theorem voSame_iff : ∀ (a b : List Ev), voSame a b = true ↔ a = b
  | [], [] => by simp [voSame]
  | [], b :: s => by simp [voSame]
  | a :: r, [] => by simp [voSame]
  | a :: r, b :: s => by simp [voSame, Ev.same_iff, voSame_iff r s]
def Me.len (m : Me) : (Int × Int) × Int := if m.right then Rt.of m.1 m.2.1 else ((0, 0), 50)
def unitsG (x : Int × Int) (v : Vl) : Bool := if 0 < v.2.2.1 then decide (¬ IntKind.i64.wrap (x.2 * v.2.2.2) = 0) else decide (¬ x.2 = 0)
def unitsV (x : Int × Int) (v : Vl) : Int := if 0 < v.2.2.1 then
    (if (IntKind.i64.wrap (IntKind.i64.wrap (x.1 * 64) * v.2.2.1)).tmod (IntKind.i64.wrap (x.2 * v.2.2.2)) = 0 then IntKind.i64.wrap ((IntKind.i64.wrap (IntKind.i64.wrap (x.1 * 64) * v.2.2.1)).tdiv (IntKind.i64.wrap (x.2 * v.2.2.2))) else 0)
  else (if (IntKind.i64.wrap (x.1 * 64)).tmod x.2 = 0 then IntKind.i64.wrap ((IntKind.i64.wrap (x.1 * 64)).tdiv x.2) else 0)
abbrev zVl : Vl := (0, 0, 0, 0)
def unitsP (b d : Nat) : Int := unitsV (Vl.len ((b : Int), (d : Int), 0, 0)).1 zVl
def fillStep (left : Int) (a : Vl × Int) (b d : Nat) : Vl × Int := if a.2 < unitsP b d then (if unitsP b d ≤ left then (((b : Int), (d : Int), 0, 0), unitsP b d) else a) else a
def fillD (left : Int) (b : Nat) : Nat → Nat → Vl × Int → Vl × Int
  | 0, _, a => a
  | n + 1, d, a => fillD left b n (d + 1) (fillStep left a b d)
def fillB (left : Int) : Nat → Nat → Vl × Int → Vl × Int
  | 0, _, a => a
  | n + 1, b, a => fillB left n (b + 1) (fillD left b 3 0 a)
def fillS (left : Int) : Vl × Int := fillB left 7 0 (zVl, 0)
theorem units_ok : ∀ b : Nat, b < 7 → ∀ d : Nat, d < 3 → unitsG (Vl.len ((b : Int), (d : Int), 0, 0)).1 zVl = true := by decide +kernel
end Vm

/- What fills a length, in plain words. -/
open Go
namespace Vm
def splitK (k : Vl) : Nat → Int → List Vl → Option (List Vl)
  | 0, _, _ => none
  | n + 1, left, acc => if 0 < left then splitK k n (IntKind.i64.wrap (left - (fillS left).2)) (acc ++ [((fillS left).1.1, (fillS left).1.2.1, k.2.2)]) else some acc
def splitL (x : Int × Int) : List Vl → Option (List Vl × Int)
  | [] => some ([], 41)
  | k :: ks => if unitsG x k = true then (match splitK k 300 (unitsV x k) [] with
      | none => none
      | some [] => splitL x ks
      | some (v :: l) => some (v :: l, 0)) else none
def splitS (x : Int × Int) : Option (List Vl × Int) := if Rt.right x then (if x.1 ≤ 0 then some ([], 41) else if 0 < Rt.cmp x (64, 1) then some ([], 41) else splitL x glKinds) else some ([], 41)
theorem splitK_grow {k : Vl} : ∀ {n : Nat} {left : Int} {acc res : List Vl}, splitK k n left acc = some res → ∃ l, res = acc ++ l
  | 0, _, _, _, h => by cases h
  | n + 1, left, acc, res, h => by
    simp only [splitK] at h
    split at h
    · obtain ⟨l, hl⟩ := splitK_grow h
      exact ⟨_, by rw [hl, List.append_assoc]⟩
    · cases h; exact ⟨[], by simp⟩
theorem splitK_len {k : Vl} : ∀ {n : Nat} {left : Int} {acc res : List Vl}, splitK k n left acc = some res → res.length ≤ acc.length + n
  | 0, _, _, _, h => by cases h
  | n + 1, left, acc, res, h => by
    simp only [splitK] at h
    split at h
    · have := splitK_len h
      simp only [List.length_append, List.length_cons, List.length_nil] at this
      omega
    · cases h; omega
theorem splitL_len {x : Int × Int} : ∀ {ks : List Vl} {res : List Vl × Int}, splitL x ks = some res → res.1.length ≤ 300
  | [], res, h => by cases h; simp
  | k :: ks, res, h => by
    simp only [splitL] at h
    split at h
    · split at h
      · cases h
      · exact splitL_len h
      · rename_i v l he
        have := splitK_len he
        cases h
        simpa using this
    · cases h
theorem splitS_len {x : Int × Int} {res : List Vl × Int} (h : splitS x = some res) : res.1.length ≤ 300 := by
  unfold splitS at h
  split at h
  · split at h
    · cases h; simp
    · split at h
      · cases h; simp
      · exact splitL_len h
  · cases h; simp
def restEv (y : Vl) : Ev := (0, [], [], y.1, y.2.1, y.2.2.1, y.2.2.2, [], [])
def Me.rests (m : Me) : Vo × Int := if Me.right m then (if (Rt.of m.1 m.2.1).2 = 0 then (((splitS (Rt.of m.1 m.2.1).1).getD ([], 41)).1.map restEv, 0) else ([], 50)) else ([], 50)
def Me.restsG (m : Me) : Bool := decide (m.2.2.length < 4611686018427387904) && (if Me.right m then (splitS (Rt.of m.1 m.2.1).1).isSome else true)
theorem Me.right_i64 {m : Me} (h : Me.right m = true) : 1 ≤ m.1 ∧ m.1 ≤ 32 ∧ 1 ≤ m.2.1 ∧ m.2.1 ≤ 64 := by
  unfold Me.right at h
  split at h
  · cases h
  · split at h
    · cases h
    · split at h
      · cases h
      · split at h
        · cases h
        · omega
end Vm

/- What sounds, in plain words. -/
open Go
namespace Vm
abbrev So := Int × Int × Int × Int × Int × Int × Int × List Int
/-- over how many events more a note is held -/
def toLen (p : Pt) : List Ev → Nat
  | a :: b :: r => if a.tied p then toLen p (b :: r) + 1 else 0
  | _ => 0
def subOf (l : Vo) (ss : List (Int × Int)) (k : Nat) (p : Pt) : (Int × Int) × Int := Rt.sub (ss[k + toLen p (l.drop k) + 1]?.getD (0, 0)) (ss[k]?.getD (0, 0))
def soundOf (l : Vo) (ss : List (Int × Int)) (k : Nat) (p : Pt) : So :=
  (p.1, p.2.1, p.2.2, (ss[k]?.getD (0, 0)).1, (ss[k]?.getD (0, 0)).2, (subOf l ss k p).1.1, (subOf l ss k p).1.2, Ev.mk (l[k]?.getD zEv))
def Ev.tiny (e : Ev) : Bool := decide (e.pitches.length ≤ 1000) && decide ((Ev.mk e).length ≤ 1000)
def Vo.tiny (l : Vo) : Bool := decide (l.length ≤ 64) && l.all Ev.tiny
/-- may a round be? -/
def roundG (l : Vo) (ss : List (Int × Int)) (k : Nat) (p : Pt) : Bool := decide (k < l.length) && (Vo.tiny l && (decide (ss.length = l.length + 1) && (ss.all Rt.i64 && decide ((subOf l ss k p).2 = 0))))
theorem toLen_lt (p : Pt) : ∀ {l : List Ev}, l ≠ [] → toLen p l < l.length
  | [a], _ => by simp [toLen]
  | a :: b :: r, _ => by
    simp only [toLen]
    have := toLen_lt p (l := b :: r) (by simp)
    split <;> simp only [List.length_cons] at * <;> omega
/-- what begins in an event -/
def begE (f : Pt → So) (led : Pt → Bool) : List Pt → List So
  | [] => []
  | p :: ps => if led p then begE f led ps else f p :: begE f led ps
def begAll (f : Nat → Pt → So) (k : Nat) (led : Pt → Bool) : List Ev → List So
  | [] => []
  | e :: r => begE (f k) led e.pitches ++ begAll f (k + 1) (fun p => e.tied p) r
/-- may all rounds be? -/
def soundsG (l : Vo) (ss : List (Int × Int)) : Bool := (List.range l.length).all fun i => (l[i]?.getD zEv).pitches.all (roundG l ss i)
def begS (l : Vo) (ss : List (Int × Int)) : List So := begAll (soundOf l ss) 0 (fun _ => false) l
def addO (o : Option (List So)) (xs : List So) : Option (List So) := match xs with
  | [] => o
  | x :: r => some (o.getD [] ++ x :: r)
theorem addO_nil (o : Option (List So)) : addO o [] = o := rfl
theorem addO_cons (o : Option (List So)) (x : So) (xs : List So) : addO o (x :: xs) = addO (some (o.getD [] ++ [x])) xs := by
  cases xs with
  | nil => rfl
  | cons y r => simp [addO]
theorem addO_append (o : Option (List So)) (xs ys : List So) : addO o (xs ++ ys) = addO (addO o xs) ys := by
  cases xs with
  | nil => rfl
  | cons x r =>
    cases ys with
    | nil => simp [addO]
    | cons y t => simp [addO]
theorem addO_len (o : Option (List So)) (xs : List So) : ((addO o xs).getD []).length = (o.getD []).length + xs.length := by
  cases xs with
  | nil => rfl
  | cons x r => simp [addO]
theorem begE_len (f : Pt → So) (led : Pt → Bool) : ∀ ps : List Pt, (begE f led ps).length ≤ ps.length
  | [] => Nat.le_refl _
  | p :: ps => by
    have := begE_len f led ps
    simp only [begE]
    split <;> simp only [List.length_cons] <;> omega
def Vo.sounds (l : Vo) : List So × Int := if (Vo.sums l).2 = 0 then (begS l (Vo.sums l).1, 0) else ([], (Vo.sums l).2)
def begunG (v l : Vo) (ss : List (Int × Int)) : Bool := voSame v l && (Vo.tiny l && soundsG l ss)
def Vo.soundsOk (l : Vo) : Bool := Vo.ok l && (if (Vo.sums l).2 = 0 then begunG l l (Vo.sums l).1 else true)
def pickI (c n : Int) : Int := if c < 0 then (IntKind.i64.wrap (0 - IntKind.i64.wrap (c + 1))).tmod n else c.tmod n
end Vm

