/- What the functions on values, pitches, words and events answer, in plain words (no program stands here). -/
import Derived.Test.YtmfbipnhhfpajaaDoorVmE
import Derived.Lib.DecodeN
set_option maxRecDepth 100000
/- What the functions on values, pitches, words and events answer, in plain words; nothing of a program stands here. -/
open Go
namespace Vm
theorem take_drop_len {α : Type} (xs : List α) (k : Nat) : List.take (xs.length - k) (List.drop k xs) = List.drop k xs := List.take_of_length_le (by simp)

def isInt (y n : Int) : Bool := decide (y = n)
theorem isInt_eq {y n : Int} (h : isInt y n = true) : y = n := of_decide_eq_true h
/-! ### Values -/
abbrev Vl := Int × Int × Int × Int
def Vl.right (v : Vl) : Bool := decide (0 ≤ v.1 ∧ v.1 ≤ 6 ∧ 0 ≤ v.2.1 ∧ v.2.1 ≤ 2 ∧ ((v.2.2.1 = 0 ∧ v.2.2.2 = 0) ∨ (2 ≤ v.2.2.1 ∧ v.2.2.1 ≤ 15 ∧ 1 ≤ v.2.2.2 ∧ v.2.2.2 ≤ 15 ∧ v.2.2.1 ≠ v.2.2.2)))

/-! ### Pitches -/
abbrev Pt := Int × Int × Int
def Pt.half (s : Int) : Int := if s < 3 then 2 * s else 2 * s - 1
def Pt.num (p : Pt) : Int := 12 * (p.2.2 + 1) + Pt.half p.1 + p.2.1
def Pt.line (p : Pt) : Int := 7 * p.2.2 + p.1
def Pt.right (p : Pt) : Bool := decide (0 ≤ p.1 ∧ p.1 ≤ 6 ∧ -2 ≤ p.2.1 ∧ p.2.1 ≤ 2 ∧ -1 ≤ p.2.2 ∧ p.2.2 ≤ 9 ∧ 0 ≤ p.num ∧ p.num ≤ 127)
def sgn (a b : Int) : Int := if a < b then -1 else if b < a then 1 else 0
def Pt.cmp (a b : Pt) : Int := if a.right && b.right then (if sgn a.num b.num = 0 then sgn a.line b.line else sgn a.num b.num) else 0
def Pt.mild (p : Pt) : Bool := decide (0 ≤ p.1 ∧ p.1 ≤ 6 ∧ -1000 ≤ p.2.1 ∧ p.2.1 ≤ 1000 ∧ -1000 ≤ p.2.2 ∧ p.2.2 ≤ 1000)
theorem Pt.mild_of {p : Pt} (h : p.right = true) : p.mild = true := by
  simp only [Pt.right, Pt.mild, decide_eq_true_eq] at h ⊢; omega
theorem glHalf_idx {s : Int} (h₀ : 0 ≤ s) (h₁ : s ≤ 6) : idx ([0, 2, 4, 5, 7, 9, 11] : List Int) s = some (Pt.half s) := by
  have : s = 0 ∨ s = 1 ∨ s = 2 ∨ s = 3 ∨ s = 4 ∨ s = 5 ∨ s = 6 := by omega
  rcases this with rfl | rfl | rfl | rfl | rfl | rfl | rfl <;> rfl
theorem Pt.half_le {s : Int} (h₀ : 0 ≤ s) (h₁ : s ≤ 6) : 0 ≤ Pt.half s ∧ Pt.half s ≤ 11 := by unfold Pt.half; split <;> omega
theorem Pt.right_iff (p : Pt) : p.right = true ↔ (0 ≤ p.1 ∧ p.1 ≤ 6 ∧ -2 ≤ p.2.1 ∧ p.2.1 ≤ 2 ∧ -1 ≤ p.2.2 ∧ p.2.2 ≤ 9 ∧ 0 ≤ p.num ∧ p.num ≤ 127) := by simp [Pt.right]

/-! ### Marks -/
def risesI : List Int → Bool
  | a :: b :: l => decide (a < b) && risesI (b :: l)
  | _ => true
def marked (l : List Int) : Bool := l.all (fun m => decide (1 ≤ m ∧ m ≤ 4)) && risesI l
def risesP : List Pt → Bool
  | a :: b :: l => decide (Pt.cmp b a > 0) && risesP (b :: l)
  | _ => true

/-! ### Words -/
/-- a lead byte: how many bytes there are, and between what the second one lies -/
def U.cls (a : Int) : Int × Int × Int :=
  if a < 128 then (1, 0, 0) else if a < 194 then (0, 0, 0) else if a ≤ 223 then (2, 128, 191) else if a = 224 then (3, 160, 191) else if a = 237 then (3, 128, 159) else if a ≤ 239 then (3, 128, 191)
  else if a = 240 then (4, 144, 191) else if a ≤ 243 then (4, 128, 191) else if a = 244 then (4, 128, 143) else (0, 0, 0)
def U.by (a : UInt8) : Int := (a.toNat : Int)
def U.cont (a : UInt8) : Bool := decide (128 ≤ U.by a ∧ U.by a ≤ 191)
/-- how long the character at the head is; 0: it is none -/
def U.rune (s : List UInt8) : Nat := match s with
  | [] => 0
  | a :: r =>
    if (U.cls (U.by a)).1 = 1 then 1
    else match r with
      | [] => 0
      | b :: r =>
        if decide ((U.cls (U.by a)).2.1 ≤ U.by b ∧ U.by b ≤ (U.cls (U.by a)).2.2) then
          if (U.cls (U.by a)).1 = 2 then 2
          else match r with
            | [] => 0
            | c :: r =>
              if U.cont c then
                if (U.cls (U.by a)).1 = 3 then 3
                else match r with
                  | [] => 0
                  | d :: _ => if U.cont d && decide ((U.cls (U.by a)).1 = 4) then 4 else 0
              else 0
        else 0
theorem U.rune_le (s : List UInt8) : U.rune s ≤ s.length := by
  unfold U.rune
  repeat' split
  all_goals (simp only [List.length_nil, List.length_cons]; omega)
def U.valid (s : List UInt8) : Bool := if _h : s = [] then true else if _h₂ : U.rune s = 0 then false else U.valid (s.drop (U.rune s))
termination_by s.length
decreasing_by
  have : 0 < s.length := List.length_pos_iff.2 _h
  simp only [List.length_drop]; omega
/-- is there no sign that commands? -/
def U.calm (s : List UInt8) : Bool := s.all fun a => decide (32 ≤ U.by a ∧ U.by a ≠ 127)
def plain (s : List UInt8) : Bool := decide (s.length ≤ 40) && (U.valid s && U.calm s)

/-! ### Events -/
abbrev Ev := Int × List (Int × Int × Int) × List Bool × Int × Int × Int × Int × List Int × List UInt8
def Ev.kind (x : Ev) : Int := x.1
def Ev.pitches (x : Ev) : List Pt := x.2.1
def Ev.ties (x : Ev) : List Bool := x.2.2.1
def Ev.val (x : Ev) : Vl := (x.2.2.2.1, x.2.2.2.2.1, x.2.2.2.2.2.1, x.2.2.2.2.2.2.1)
def Ev.marks (x : Ev) : List Int := x.2.2.2.2.2.2.2.1
def Ev.word (x : Ev) : List UInt8 := x.2.2.2.2.2.2.2.2
def Ev.right (x : Ev) : Bool := x.val.right && (plain x.word && (marked x.marks && (decide (x.ties.length = x.pitches.length) &&
  (if x.kind = 0 then decide (x.pitches.length = 0) && (decide (x.word = []) && x.marks.all (fun m => decide (m = 4)))
   else decide (x.kind = 1) && (decide (1 ≤ x.pitches.length) && (decide (x.pitches.length ≤ 8) && (x.pitches.all Pt.right && risesP x.pitches)))))))
def Ev.small (x : Ev) : Bool := decide (x.2.1.length < 4611686018427387904) && (decide (x.2.2.1.length < 4611686018427387904) && decide (x.2.2.2.2.2.2.2.1.length < 4611686018427387904))
def Ev.same (x y : Ev) : Bool := decide (x.1 = y.1) && (decide (x.2.1 = y.2.1) && (decide (x.2.2.1 = y.2.2.1) && (decide (x.2.2.2.1 = y.2.2.2.1) && (decide (x.2.2.2.2.1 = y.2.2.2.2.1) && (decide (x.2.2.2.2.2.1 = y.2.2.2.2.2.1) && (decide (x.2.2.2.2.2.2.1 = y.2.2.2.2.2.2.1) &&
  (decide (x.2.2.2.2.2.2.2.1 = y.2.2.2.2.2.2.2.1) && decide (x.2.2.2.2.2.2.2.2 = y.2.2.2.2.2.2.2.2))))))))
theorem Ev.same_iff (x y : Ev) : Ev.same x y = true ↔ x = y := by
  obtain ⟨a1, a2, a3, a4, a5, a6, a7, a8, a9⟩ := x
  obtain ⟨b1, b2, b3, b4, b5, b6, b7, b8, b9⟩ := y
  simp [Ev.same]
/-! ### Tables that the code reads -/
def utf8First : List Int := [240, 240, 240, 240, 240, 240, 240, 240, 240, 240, 240, 240, 240, 240, 240, 240, 240, 240, 240, 240, 240, 240, 240, 240, 240, 240, 240, 240, 240, 240, 240, 240, 240, 240, 240, 240, 240, 240, 240, 240, 240, 240, 240, 240, 240, 240, 240, 240, 240, 240, 240, 240, 240, 240, 240, 240, 240, 240, 240, 240, 240, 240, 240, 240, 240, 240, 240, 240, 240, 240, 240, 240, 240, 240, 240, 240, 240, 240, 240, 240, 240, 240, 240, 240, 240, 240, 240, 240, 240, 240, 240, 240, 240, 240, 240, 240, 240, 240, 240, 240, 240, 240, 240, 240, 240, 240, 240, 240, 240, 240, 240, 240, 240, 240, 240, 240, 240, 240, 240, 240, 240, 240, 240, 240, 240, 240, 240, 240, 241, 241, 241, 241, 241, 241, 241, 241, 241, 241, 241, 241, 241, 241, 241, 241, 241, 241, 241, 241, 241, 241, 241, 241, 241, 241, 241, 241, 241, 241, 241, 241, 241, 241, 241, 241, 241, 241, 241, 241, 241, 241, 241, 241, 241, 241, 241, 241, 241, 241, 241, 241, 241, 241, 241, 241, 241, 241, 241, 241, 241, 241, 241, 241, 241, 241, 2, 2, 2, 2, 2, 2, 2, 2, 2, 2, 2, 2, 2, 2, 2, 2, 2, 2, 2, 2, 2, 2, 2, 2, 2, 2, 2, 2, 2, 2, 19, 3, 3, 3, 3, 3, 3, 3, 3, 3, 3, 3, 3, 35, 3, 3, 52, 4, 4, 4, 68, 241, 241, 241, 241, 241, 241, 241, 241, 241, 241, 241]
def utf8Accept : List (Int × Int) := [(128, 191), (160, 191), (128, 159), (144, 191), (128, 143), (0, 0), (0, 0), (0, 0), (0, 0), (0, 0), (0, 0), (0, 0), (0, 0), (0, 0), (0, 0), (0, 0)]
def glDotted : List (Int × Int) := [(1, 1), (3, 2), (7, 4)]
def glHalf : List Int := [0, 2, 4, 5, 7, 9, 11]

end Vm

/- Words: how the model reads characters, and how they are told to be right. -/
open Go
namespace Vm
def g4 (t : List UInt8) (k : Nat) : Nat := (t[k]?.getD 0).toNat
theorem get_drop (s : List UInt8) (p k : Nat) : ((⟨s.toArray⟩ : ByteArray).get! (p + k)).toNat = g4 (s.drop p) k := by
  have : (⟨s.toArray⟩ : ByteArray).get! (p + k) = s.toArray[p + k]! := rfl
  rw [this, g4, List.getElem?_drop]
  simp only [Array.getElem!_eq_getD, Array.getD_eq_getD_getElem?, List.getElem?_toArray]
  rfl
theorem decode_drop (s : List UInt8) (p : Nat) : Utf8.decode ⟨s.toArray⟩ p = Lib.decodeN (s.drop p).length (g4 (s.drop p) 0) (g4 (s.drop p) 1) (g4 (s.drop p) 2) (g4 (s.drop p) 3) := by
  have e0 := get_drop s p 0
  rw [Nat.add_zero] at e0
  rw [Lib.decode_at, e0, get_drop, get_drop, get_drop, List.length_drop]
  rfl
theorem g4_lt (t : List UInt8) (k : Nat) : g4 t k < 256 := UInt8.toNat_lt _

theorem slow2 {n b0 b1 b2 b3 lo hi : Nat} (h : 2 ≤ n) (h1 : lo ≤ b1) (h1' : b1 ≤ hi) : Lib.slowN n b0 b1 b2 b3 2 lo hi = (b0 % 32 * 64 + b1 % 64, 2) := by
  unfold Lib.slowN
  rw [if_neg (by omega), if_neg (by omega), if_pos (by omega)]
theorem slow3 {n b0 b1 b2 b3 lo hi : Nat} (h : 3 ≤ n) (h1 : lo ≤ b1) (h1' : b1 ≤ hi) (h2 : 128 ≤ b2) (h2' : b2 ≤ 191) : Lib.slowN n b0 b1 b2 b3 3 lo hi = (b0 % 16 * 4096 + b1 % 64 * 64 + b2 % 64, 3) := by
  unfold Lib.slowN
  rw [if_neg (by omega), if_neg (by omega), if_neg (by omega), if_neg (by omega), if_pos (by omega)]
theorem slow4 {n b0 b1 b2 b3 lo hi : Nat} (h : 4 ≤ n) (h1 : lo ≤ b1) (h1' : b1 ≤ hi) (h2 : 128 ≤ b2) (h2' : b2 ≤ 191) (h3 : 128 ≤ b3) (h3' : b3 ≤ 191) : Lib.slowN n b0 b1 b2 b3 4 lo hi = (b0 % 8 * 262144 + b1 % 64 * 4096 + b2 % 64 * 64 + b3 % 64, 4) := by
  unfold Lib.slowN
  rw [if_neg (by omega), if_neg (by omega), if_neg (by omega), if_neg (by omega), if_neg (by omega), if_neg (by omega)]

/-- what it means that a character of several bytes is right -/
theorem U.rune_two {a b : UInt8} {r : List UInt8} {lo hi : Int} (h2 : U.cls (U.by a) = (2, lo, hi)) : U.rune (a :: b :: r) = if lo ≤ U.by b ∧ U.by b ≤ hi then 2 else 0 := by
  simp only [U.rune, h2]; simp
theorem U.rune_three {a b c : UInt8} {r : List UInt8} {lo hi : Int} (h2 : U.cls (U.by a) = (3, lo, hi)) : U.rune (a :: b :: c :: r) = if (lo ≤ U.by b ∧ U.by b ≤ hi) ∧ U.cont c = true then 3 else 0 := by
  by_cases hx : lo ≤ U.by b ∧ U.by b ≤ hi <;> by_cases hy : U.cont c = true <;> simp [U.rune, h2, hx, hy]
theorem U.rune_four {a b c d : UInt8} {r : List UInt8} {lo hi : Int} (h2 : U.cls (U.by a) = (4, lo, hi)) : U.rune (a :: b :: c :: d :: r) = if (lo ≤ U.by b ∧ U.by b ≤ hi) ∧ U.cont c = true ∧ U.cont d = true then 4 else 0 := by
  by_cases hx : lo ≤ U.by b ∧ U.by b ≤ hi <;> by_cases hy : U.cont c = true <;> by_cases hz : U.cont d = true <;> simp [U.rune, h2, hx, hy, hz]
theorem U.rune_short1 {a : UInt8} {n lo hi : Int} (h2 : U.cls (U.by a) = (n, lo, hi)) (hn : n ≠ 1) : U.rune [a] = 0 := by simp [U.rune, h2, hn]
theorem U.rune_short2 {a b : UInt8} {n lo hi : Int} (h2 : U.cls (U.by a) = (n, lo, hi)) (hn : n ≠ 1) (hn' : n ≠ 2) : U.rune [a, b] = 0 := by simp [U.rune, h2, hn, hn']
theorem U.rune_short3 {a b c : UInt8} {n lo hi : Int} (h2 : U.cls (U.by a) = (n, lo, hi)) (hn : n ≠ 1) (hn' : n ≠ 2) (hn'' : n ≠ 3) : U.rune [a, b, c] = 0 := by simp [U.rune, h2, hn, hn', hn'']
theorem U.rune_bad {a : UInt8} {r : List UInt8} {lo hi : Int} (h2 : U.cls (U.by a) = (0, lo, hi)) : U.rune (a :: r) = 0 := by
  simp only [U.rune, h2]
  repeat' split
  all_goals first | rfl | (simp_all; done) | (simp_all; omega)
theorem U.rune_low {a : UInt8} {r : List UInt8} {lo hi : Int} (h2 : U.cls (U.by a) = (1, lo, hi)) : U.rune (a :: r) = 1 := by simp [U.rune, h2]

theorem U.cls_cases (a : UInt8) : (U.by a < 128 ∧ U.cls (U.by a) = (1, 0, 0)) ∨ (((128 ≤ U.by a ∧ U.by a < 194) ∨ 244 < U.by a) ∧ U.cls (U.by a) = (0, 0, 0)) ∨ ((194 ≤ U.by a ∧ U.by a < 224) ∧ U.cls (U.by a) = (2, 128, 191)) ∨
    (U.by a = 224 ∧ U.cls (U.by a) = (3, 160, 191)) ∨ (U.by a = 237 ∧ U.cls (U.by a) = (3, 128, 159)) ∨ (((225 ≤ U.by a ∧ U.by a < 237) ∨ (238 ≤ U.by a ∧ U.by a < 240)) ∧ U.cls (U.by a) = (3, 128, 191)) ∨
    (U.by a = 240 ∧ U.cls (U.by a) = (4, 144, 191)) ∨ ((241 ≤ U.by a ∧ U.by a < 244) ∧ U.cls (U.by a) = (4, 128, 191)) ∨ (U.by a = 244 ∧ U.cls (U.by a) = (4, 128, 143)) := by
  have h0 : (0 : Int) ≤ U.by a := by simp [U.by]
  revert h0
  generalize U.by a = n
  intro h0
  simp only [U.cls]
  repeat' split
  all_goals simp
  all_goals omega

abbrev dec (t : List UInt8) : Nat × Nat := Lib.decodeN t.length (g4 t 0) (g4 t 1) (g4 t 2) (g4 t 3)
theorem U.calm_big {l : List UInt8} (h : ∀ a ∈ l, 128 ≤ U.by a) : U.calm l = true := by
  simp only [U.calm, List.all_eq_true, decide_eq_true_eq]
  intro a ha; have := h a ha; omega
/-- a right character is read as it is: as many bytes; and it commands only if it is one byte that does -/
theorem dec_rune (t : List UInt8) (h : U.rune t ≠ 0) : (dec t).2 = U.rune t ∧ (decide (((dec t).1 : Int) < 32) || decide (((dec t).1 : Int) = 127)) = !U.calm (t.take (U.rune t)) := by
  have big : ∀ (n v : Nat) (l : List UInt8), (∀ a ∈ l, 128 ≤ U.by a) → 128 ≤ v → (decide ((v : Int) < 32) || decide ((v : Int) = 127)) = !U.calm l := fun n v l hl hv => by
    rw [U.calm_big hl, decide_eq_false (by omega), decide_eq_false (by omega)]; rfl
  have low1 : ∀ n : Int, (decide (n < 32) || decide (n = 127)) = !decide (32 ≤ n ∧ n ≠ 127) := fun n => by
    by_cases h1 : n < 32
    · simp [h1]; try omega
    · by_cases h2 : n = 127
      · simp [h2]
      · simp [h1, h2]; omega
  match t, h with
  | [], h => exact absurd rfl h
  | [a], h =>
    rcases U.cls_cases a with ⟨h1, h2⟩ | ⟨h1, h2⟩ | ⟨h1, h2⟩ | ⟨h1, h2⟩ | ⟨h1, h2⟩ | ⟨h1, h2⟩ | ⟨h1, h2⟩ | ⟨h1, h2⟩ | ⟨h1, h2⟩
    · rw [U.rune_low h2]
      have hd : dec [a] = (a.toNat, 1) := by
        simp only [dec, Lib.decodeN]; rw [if_pos (by simp [g4]; simp [U.by] at h1; omega)]; rfl
      rw [hd]
      refine ⟨rfl, ?_⟩
      simp only [List.take, U.calm, List.all_cons, List.all_nil, Bool.and_true, U.by]
      exact low1 _
    · exact absurd (U.rune_bad h2) h
    all_goals exact absurd (U.rune_short1 h2 (by decide)) h
  | a :: b :: r, h =>
    have hb0 : g4 (a :: b :: r) 0 = a.toNat := rfl
    have hb1 : g4 (a :: b :: r) 1 = b.toNat := rfl
    have ha : U.by a = (a.toNat : Int) := rfl
    have hb : U.by b = (b.toNat : Int) := rfl
    have l1 := g4_lt (a :: b :: r) 1
    have l2 := g4_lt (a :: b :: r) 2
    have l3 := g4_lt (a :: b :: r) 3
    rcases U.cls_cases a with ⟨h1, h2⟩ | ⟨h1, h2⟩ | ⟨h1, h2⟩ | ⟨h1, h2⟩ | ⟨h1, h2⟩ | ⟨h1, h2⟩ | ⟨h1, h2⟩ | ⟨h1, h2⟩ | ⟨h1, h2⟩
    · rw [U.rune_low h2]
      have hd : dec (a :: b :: r) = (a.toNat, 1) := by
        simp only [dec, Lib.decodeN]; rw [hb0, if_pos (by omega)]
      rw [hd]
      refine ⟨rfl, ?_⟩
      simp only [List.take, U.calm, List.all_cons, List.all_nil, Bool.and_true, U.by]
      exact low1 _
    · exact absurd (U.rune_bad h2) h
    · rw [U.rune_two h2] at h ⊢
      split at h
      · rename_i hc
        rw [if_pos hc]
        have e : dec (a :: b :: r) = _ := (Lib.slow_C2 (a :: b :: r).length _ _ _ _ (by simp) l1 l2 l3 (by rw [hb0]; omega)).symm.trans (slow2 (by simp) (by rw [hb1]; omega) (by rw [hb1]; omega))
        rw [e]
        exact ⟨rfl, big 2 _ _ (by intro x hx; simp at hx; rcases hx with rfl | rfl <;> omega) (by rw [hb0, hb1]; omega)⟩
      · exact absurd rfl h
    all_goals
      match r, h with
      | [], h => exact absurd (U.rune_short2 h2 (by decide) (by decide)) h
      | c :: r, h =>
        have hb2 : g4 (a :: b :: c :: r) 2 = c.toNat := rfl
        have hc' : U.by c = (c.toNat : Int) := rfl
        first
        | (rw [U.rune_three h2] at h ⊢
           split at h
           · rename_i hc
             rw [if_pos hc]
             obtain ⟨hc1, hc2⟩ := hc
             simp only [U.cont, decide_eq_true_eq] at hc2
             have e : dec (a :: b :: c :: r) = _ := (by
               first
               | exact (Lib.slow_E0 (a :: b :: c :: r).length _ _ _ _ (by simp) l1 l2 l3 (by rw [hb0]; omega)).symm.trans (slow3 (by simp) (by rw [hb1]; omega) (by rw [hb1]; omega) (by rw [hb2]; omega) (by rw [hb2]; omega))
               | exact (Lib.slow_ED (a :: b :: c :: r).length _ _ _ _ (by simp) l1 l2 l3 (by rw [hb0]; omega)).symm.trans (slow3 (by simp) (by rw [hb1]; omega) (by rw [hb1]; omega) (by rw [hb2]; omega) (by rw [hb2]; omega))
               | exact (Lib.slow_E1 (a :: b :: c :: r).length _ _ _ _ (by simp) l1 l2 l3 (by rw [hb0]; omega)).symm.trans (slow3 (by simp) (by rw [hb1]; omega) (by rw [hb1]; omega) (by rw [hb2]; omega) (by rw [hb2]; omega)))
             rw [e]
             exact ⟨rfl, big 3 _ _ (by intro x hx; simp at hx; rcases hx with rfl | rfl | rfl <;> omega) (by rw [hb0, hb1, hb2]; omega)⟩
           · exact absurd rfl h)
        | (match r, h with
           | [], h => exact absurd (U.rune_short3 h2 (by decide) (by decide) (by decide)) h
           | d :: r, h =>
             have hb3 : g4 (a :: b :: c :: d :: r) 3 = d.toNat := rfl
             have hd' : U.by d = (d.toNat : Int) := rfl
             rw [U.rune_four h2] at h ⊢
             split at h
             · rename_i hc
               rw [if_pos hc]
               obtain ⟨hc1, hc2, hc3⟩ := hc
               simp only [U.cont, decide_eq_true_eq] at hc2 hc3
               have e : dec (a :: b :: c :: d :: r) = _ := (by
                 first
                 | exact (Lib.slow_F0 (a :: b :: c :: d :: r).length _ _ _ _ (by simp) l1 l2 l3 (by rw [hb0]; omega)).symm.trans (slow4 (by simp) (by rw [hb1]; omega) (by rw [hb1]; omega) (by rw [hb2]; omega) (by rw [hb2]; omega) (by rw [hb3]; omega) (by rw [hb3]; omega))
                 | exact (Lib.slow_F4 (a :: b :: c :: d :: r).length _ _ _ _ (by simp) l1 l2 l3 (by rw [hb0]; omega)).symm.trans (slow4 (by simp) (by rw [hb1]; omega) (by rw [hb1]; omega) (by rw [hb2]; omega) (by rw [hb2]; omega) (by rw [hb3]; omega) (by rw [hb3]; omega))
                 | exact (Lib.slow_F1 (a :: b :: c :: d :: r).length _ _ _ _ (by simp) l1 l2 l3 (by rw [hb0]; omega)).symm.trans (slow4 (by simp) (by rw [hb1]; omega) (by rw [hb1]; omega) (by rw [hb2]; omega) (by rw [hb2]; omega) (by rw [hb3]; omega) (by rw [hb3]; omega)))
               rw [e]
               exact ⟨rfl, big 4 _ _ (by intro x hx; simp at hx; rcases hx with rfl | rfl | rfl | rfl <;> omega) (by rw [hb0, hb1, hb2, hb3]; omega)⟩
             · exact absurd rfl h)

theorem U.valid_nil : U.valid [] = true := by rw [U.valid]; rfl
theorem U.valid_step {s : List UInt8} (h : s ≠ []) (h2 : U.rune s ≠ 0) : U.valid s = U.valid (s.drop (U.rune s)) := by
  rw [U.valid, dif_neg h, dif_neg h2]
theorem U.valid_bad {s : List UInt8} (h : s ≠ []) (h2 : U.rune s = 0) : U.valid s = false := by
  rw [U.valid, dif_neg h, dif_pos h2]
theorem U.calm_split (s : List UInt8) (n : Nat) : U.calm s = (U.calm (s.take n) && U.calm (s.drop n)) := by
  unfold U.calm; rw [← List.all_append, List.take_append_drop]
end Vm
namespace Vm
theorem td (s : List UInt8) (k : Int) (n : Nat) (h : k = (n : Int)) : List.take ((s.length : Int).toNat - k.toNat) (List.drop k.toNat s) = s.drop n := by
  subst h; simp only [Int.toNat_natCast]; exact take_drop_len s n
theorem U.valid_low (k : Nat) : ∀ (s : List UInt8), lowAll (s.take k) = true → k ≤ s.length → U.valid s = U.valid (s.drop k) := by
  induction k with
  | zero => intro s _ _; rfl
  | succ k ih =>
    intro s h hl
    match s, h, hl with
    | a :: r, h, hl =>
      simp only [lowAll, List.take_succ_cons, List.all_cons, Bool.and_eq_true, decide_eq_true_eq] at h
      have e : U.cls (U.by a) = (1, 0, 0) := by simp only [U.cls]; rw [if_pos (by simp only [U.by]; omega)]
      rw [U.valid_step (by simp) (by rw [U.rune_low e]; decide), U.rune_low e]
      exact ih r (by simpa [lowAll] using h.2) (by simpa using hl)
def U.tab (n : Int) : Option (Int × Int × Int) := match idx utf8First n with
  | some y => match idx utf8Accept (y.fdiv ((2 : Int) ^ min (Int.toNat 4) IntKind.u8.bits)) with
    | some z => some (IntKind.i64.wrap (bitop BinOp.and IntKind.u8 y 7), z)
    | none => none
  | none => none
def U.tv (c : Int × Int × Int) : Int × Int × Int := if c.1 = 0 then (1, 0, 0) else c
theorem U.tab_eq (a : UInt8) (h : 128 ≤ U.by a) : U.tab (U.by a) = some (U.tv (U.cls (U.by a))) := by
  have : ∀ n : Fin 256, 128 ≤ n.val → U.tab (n.val : Int) = some (U.tv (U.cls (n.val : Int))) := by decide +kernel
  exact this ⟨a.toNat, a.toNat_lt⟩ (by show 128 ≤ a.toNat; simp only [U.by] at h; omega)
theorem idx_get {α : Type} (s : List α) (i : Int) (n : Nat) (h : i = (n : Int)) : idx s i = s[n]? := by subst h; exact idx_nat s n
end Vm
namespace Vm
theorem dec_pos (t : List UInt8) : 1 ≤ (dec t).2 := by
  simp only [dec, Lib.decodeN]
  repeat' split
  all_goals simp
/-- where the first sign is that commands -/
def U.oddAt (s : List UInt8) : Nat → Nat → Int
  | 0, _ => -1
  | L + 1, p => if p < s.length then (if ((dec (s.drop p)).1 : Int) < 32 ∨ ((dec (s.drop p)).1 : Int) = 127 then p else U.oddAt s L (p + (dec (s.drop p)).2)) else -1
theorem U.oddAt_calm (s : List UInt8) : ∀ (L p : Nat), s.length ≤ p + L → p ≤ s.length → U.valid (s.drop p) = true → decide (0 ≤ U.oddAt s L p) = !U.calm (s.drop p) := by
  intro L
  induction L with
  | zero => intro p hp _ hv; rw [List.drop_eq_nil_of_le (by omega)]; rfl
  | succ L ih =>
    intro p hp hp' hv
    unfold U.oddAt
    by_cases h0 : p < s.length
    · have hne : s.drop p ≠ [] := by
        intro e
        have := congrArg List.length e
        simp only [List.length_drop, List.length_nil] at this; omega
      have hr : U.rune (s.drop p) ≠ 0 := by
        intro e
        rw [U.valid_bad hne e] at hv; cases hv
      obtain ⟨d1, d2⟩ := dec_rune (s.drop p) hr
      rw [if_pos h0]
      by_cases c1 : ((dec (s.drop p)).1 : Int) < 32 ∨ ((dec (s.drop p)).1 : Int) = 127
      · rw [if_pos c1]
        rw [← Bool.decide_or, decide_eq_true c1] at d2
        rw [U.calm_split _ (U.rune (s.drop p))]
        have : U.calm ((s.drop p).take (U.rune (s.drop p))) = false := by simpa using d2.symm
        rw [this]; simp
      · rw [if_neg c1, d1]
        rw [← Bool.decide_or, decide_eq_false c1] at d2
        have hle := U.rune_le (s.drop p)
        rw [List.length_drop] at hle
        rw [U.valid_step hne hr, List.drop_drop] at hv
        rw [ih (p + U.rune (s.drop p)) (by omega) (by omega) hv, U.calm_split (s.drop p) (U.rune (s.drop p)), List.drop_drop]
        have : U.calm ((s.drop p).take (U.rune (s.drop p))) = true := by simpa using d2.symm
        rw [this, Bool.true_and]
    · rw [if_neg h0, List.drop_eq_nil_of_le (by omega)]; rfl
theorem risesI_drop (l : List Int) (i : Nat) (h : i + 1 < l.length) : risesI (l.drop i) = (decide (l[i]'(by omega) < l[i + 1]) && risesI (l.drop (i + 1))) := by
  rw [List.drop_eq_getElem_cons (by omega : i < l.length), List.drop_eq_getElem_cons h]; rfl
theorem risesI_short {l : List Int} (h : l.length ≤ 1) : risesI l = true := by
  match l, h with
  | [], _ => rfl
  | [_], _ => rfl
theorem risesP_drop (l : List Pt) (i : Nat) (h : i + 1 < l.length) : risesP (l.drop i) = (decide (Pt.cmp l[i + 1] (l[i]'(by omega)) > 0) && risesP (l.drop (i + 1))) := by
  rw [List.drop_eq_getElem_cons (by omega : i < l.length), List.drop_eq_getElem_cons h]; rfl
theorem risesP_short {l : List Pt} (h : l.length ≤ 1) : risesP l = true := by
  match l, h with
  | [], _ => rfl
  | [_], _ => rfl
/-- where the first mark is that is no fermata -/
def notFour : List Int → Nat → Int
  | [], _ => -1
  | a :: l, i => if a = 4 then notFour l (i + 1) else i
theorem notFour_neg (l : List Int) : ∀ i, decide (0 ≤ notFour l i) = !(l.all fun m => decide (m = 4)) := by
  induction l with
  | nil => intro i; rfl
  | cons a l ih =>
    intro i
    by_cases h : a = 4
    · have e : notFour (a :: l) i = notFour l (i + 1) := if_pos h
      rw [e, ih, List.all_cons, decide_eq_true h, Bool.true_and]
    · have e : notFour (a :: l) i = (i : Int) := if_neg h
      rw [e, List.all_cons, decide_eq_false h]; simp
end Vm
namespace Vm
/-! ### Pitches, up -/
def Pt.upTo (p : Pt) (b : Int × Int) : Pt := ((p.line + b.1 + 7) % 7, p.num + b.2 - Pt.num ((p.line + b.1 + 7) % 7, 0, (p.line + b.1 + 7) / 7 - 1), (p.line + b.1 + 7) / 7 - 1)
def Pt.up (p : Pt) (b : Int × Int) : Option Pt := if p.right && decide (0 ≤ p.line + b.1 + 7) && (Pt.upTo p b).right then some (Pt.upTo p b) else none
def Pt.upV (p : Pt) (b : Int × Int) : Pt := (Pt.up p b).getD (0, 0, 0)
def Pt.upE (p : Pt) (b : Int × Int) : Int := if (Pt.up p b).isSome then 0 else 20
theorem Pt.up_some {p : Pt} {b : Int × Int} {q : Pt} (h : Pt.up p b = some q) : p.right = true ∧ 0 ≤ p.line + b.1 + 7 ∧ q = Pt.upTo p b ∧ q.right = true := by
  unfold Pt.up at h
  split at h
  · rename_i hc
    simp only [Bool.and_eq_true, decide_eq_true_eq] at hc
    cases h; exact ⟨hc.1.1, hc.1.2, rfl, hc.2⟩
  · cases h
theorem Pt.upTo_num (p : Pt) (b : Int × Int) : (Pt.upTo p b).num = p.num + b.2 := by simp only [Pt.upTo, Pt.num]; omega
theorem Pt.upTo_line (p : Pt) (b : Int × Int) : (Pt.upTo p b).line = p.line + b.1 := by simp only [Pt.upTo, Pt.line]; omega
theorem Pt.line_le {p : Pt} (h : p.right = true) : -7 ≤ p.line ∧ p.line ≤ 69 := by
  have := (Pt.right_iff p).1 h
  simp only [Pt.line]; omega
/-- a pitch is told by its line and number -/
theorem Pt.ext {p q : Pt} (hp : p.right = true) (hq : q.right = true) (hl : p.line = q.line) (hn : p.num = q.num) : p = q := by
  have a := (Pt.right_iff p).1 hp
  have b := (Pt.right_iff q).1 hq
  obtain ⟨p1, p2, p3⟩ := p
  obtain ⟨q1, q2, q3⟩ := q
  simp only [Pt.line] at hl
  have h1 : p1 = q1 := by simp only at a b; omega
  have h3 : p3 = q3 := by simp only at a b; omega
  subst h1 h3
  simp only [Pt.num] at hn
  have : p2 = q2 := by omega
  rw [this]
end Vm
namespace Vm
/-- if the first byte commands not, a right character does not -/
theorem one_odd (a : UInt8) (r : List UInt8) (h0 : U.rune (a :: r) ≠ 0) (hx : U.calm ((a :: r).take (U.rune (a :: r))) = false) (h1 : 32 ≤ U.by a) (h2 : U.by a ≠ 127) : False := by
  rcases U.cls_cases a with ⟨h3, e⟩ | ⟨h3, e⟩ | ⟨h3, e⟩ | ⟨h3, e⟩ | ⟨h3, e⟩ | ⟨h3, e⟩ | ⟨h3, e⟩ | ⟨h3, e⟩ | ⟨h3, e⟩
  · rw [U.rune_low e] at hx
    simp only [List.take_succ_cons, List.take_zero, U.calm, List.all_cons, List.all_nil, Bool.and_true] at hx
    rw [decide_eq_true ⟨h1, h2⟩] at hx; cases hx
  · exact h0 (U.rune_bad e)
  all_goals
    obtain ⟨d1, d2⟩ := dec_rune (a :: r) h0
    rw [hx] at d2
    match r, h0, hx, d1, d2 with
    | [], h0, hx, d1, d2 => exact h0 (U.rune_short1 e (by decide))
    | b :: r, h0, hx, d1, d2 =>
      first
      | (rw [U.rune_two e] at hx h0
         split at hx
         · rename_i hc
           rw [U.calm_big (by intro x hx; simp at hx; rcases hx with rfl | rfl <;> omega)] at hx; cases hx
         · rename_i hc; exact h0 (if_neg hc))
      | (match r, h0, hx, d1, d2 with
         | [], h0, hx, d1, d2 => exact h0 (U.rune_short2 e (by decide) (by decide))
         | c :: r, h0, hx, d1, d2 =>
           first
           | (rw [U.rune_three e] at hx h0
              split at hx
              · rename_i hc
                have c2 := of_decide_eq_true hc.2
                rw [U.calm_big (by intro x hx; simp at hx; rcases hx with rfl | rfl | rfl <;> omega)] at hx; cases hx
              · rename_i hc; exact h0 (if_neg hc))
           | (match r, h0, hx, d1, d2 with
              | [], h0, hx, d1, d2 => exact h0 (U.rune_short3 e (by decide) (by decide) (by decide))
              | d :: r, h0, hx, d1, d2 =>
                rw [U.rune_four e] at hx h0
                split at hx
                · rename_i hc
                  have c2 := of_decide_eq_true hc.2.1
                  have c3 := of_decide_eq_true hc.2.2
                  rw [U.calm_big (by intro x hx; simp at hx; rcases hx with rfl | rfl | rfl | rfl <;> omega)] at hx; cases hx
                · rename_i hc; exact h0 (if_neg hc)))
end Vm
namespace Vm
theorem Pt.up_bounds {p : Pt} {b : Int × Int} {q : Pt} (h : Pt.up p b = some q) : -76 ≤ b.1 ∧ b.1 ≤ 76 ∧ -127 ≤ b.2 ∧ b.2 ≤ 127 := by
  obtain ⟨h1, h2, rfl, h4⟩ := Pt.up_some h
  have a := Pt.line_le h1
  have c := Pt.line_le h4
  have d := (Pt.right_iff p).1 h1
  have e := (Pt.right_iff _).1 h4
  rw [Pt.upTo_line] at c
  have f := Pt.upTo_num p b
  omega
theorem Pt.up_none {p : Pt} {b : Int × Int} (h : ¬(-76 ≤ b.1 ∧ b.1 ≤ 76 ∧ -127 ≤ b.2 ∧ b.2 ≤ 127)) : Pt.up p b = none := by
  cases hq : Pt.up p b with
  | none => rfl
  | some q => exact absurd (Pt.up_bounds hq) h
theorem Pt.up_wrong {p : Pt} {b : Int × Int} (h : p.right = false) : Pt.up p b = none := by
  unfold Pt.up; rw [h]; rfl
/-- a pitch up is the one of its line and number -/
theorem Pt.up_eq {p q : Pt} {b : Int × Int} (hp : p.right = true) (hq : q.right = true) (hl : q.line = p.line + b.1) (hn : q.num = p.num + b.2) : Pt.up p b = some q := by
  have l := Pt.line_le hq
  have e1 : (p.line + b.1 + 7) % 7 = q.1 ∧ (p.line + b.1 + 7) / 7 - 1 = q.2.2 := by
    have r := (Pt.right_iff q).1 hq
    simp only [Pt.line] at hl ⊢
    omega
  have e : Pt.upTo p b = q := by
    obtain ⟨q1, q2, q3⟩ := q
    simp only [Pt.upTo, e1.1, e1.2]
    simp only [Pt.num] at hn ⊢
    congr 2
    omega
  unfold Pt.up
  rw [e, hp, hq, decide_eq_true (by omega)]; rfl
end Vm
namespace Vm
/-! ### Events -/
abbrev Ev.mk (x : Ev) : List Int := x.2.2.2.2.2.2.2.1
def Ev.okm (x : Ev) : Bool := decide ((Ev.mk x).length < 4611686018427387904)
def Ev.tail (x : Ev) : Bool := x.pitches.all Pt.right && risesP x.pitches
def Ev.shape (x : Ev) : Bool := if x.kind = 0 then decide (x.pitches.length = 0) && (decide (x.word = []) && x.marks.all (fun m => decide (m = 4)))
   else decide (x.kind = 1) && (decide (1 ≤ x.pitches.length) && (decide (x.pitches.length ≤ 8) && Ev.tail x))
theorem Ev.right_eq (x : Ev) : x.right = (x.val.right && (plain x.word && (marked x.marks && (decide (x.ties.length = x.pitches.length) && Ev.shape x)))) := rfl
def firstFour : List Int → Bool
  | [] => true
  | a :: _ => decide (a = 4)
theorem marked_four {l : List Int} (h : marked l = true) : (l.all fun m => decide (m = 4)) = firstFour l := by
  match l, h with
  | [], _ => rfl
  | [a], _ => simp [firstFour]
  | a :: b :: r, h =>
    simp only [marked, risesI, List.all_cons, Bool.and_eq_true, decide_eq_true_eq] at h
    simp only [List.all_cons, firstFour]
    rw [decide_eq_false (p := a = 4) (by omega)]; rfl
end Vm
namespace Vm
/-! ### Fractions -/
def gcdI (a b : Int) : Int := (Nat.gcd a.toNat b.toNat : Nat)
def absI (a : Int) : Int := (a.natAbs : Nat)
def i64B (a : Int) : Bool := decide (-9223372036854775808 ≤ a ∧ a ≤ 9223372036854775807)
def posB (a b : Int) : Bool := decide (0 ≤ a ∧ 0 ≤ b)
theorem gcdI_zero {a : Int} (h : 0 ≤ a) : gcdI a 0 = a := by simp [gcdI]; omega
theorem gcdI_step {a b : Int} (ha : 0 ≤ a) (hb : 0 < b) : gcdI a b = gcdI b (a.tmod b) := by
  unfold gcdI
  rw [Int.tmod_eq_emod_of_nonneg ha, Nat.gcd_comm a.toNat, Nat.gcd_rec b.toNat a.toNat, Nat.gcd_comm]
  congr 2
  have : (a % b).toNat = a.toNat % b.toNat := by
    obtain ⟨n, rfl⟩ := Int.eq_ofNat_of_zero_le ha
    obtain ⟨m, rfl⟩ := Int.eq_ofNat_of_zero_le (Int.le_of_lt hb)
    simp only [Int.toNat_natCast]
    rw [← Int.natCast_emod, Int.toNat_natCast]
  rw [this]
end Vm
namespace Vm
def Rt.of (a b : Int) : (Int × Int) × Int :=
  if b = 0 then ((0, 0), 11)
  else if (1000000000 : Int) < (if absI b / gcdI (absI a) (absI b) > absI a / gcdI (absI a) (absI b) then absI b / gcdI (absI a) (absI b) else absI a / gcdI (absI a) (absI b)) then ((0, 0), 10)
  else ((if (decide (a < 0) == decide (b < 0)) = true then absI a / gcdI (absI a) (absI b) else -(absI a / gcdI (absI a) (absI b)), absI b / gcdI (absI a) (absI b)), 0)
theorem absI_nonneg (a : Int) : 0 ≤ absI a := by simp [absI]
theorem gcdI_pos {a b : Int} (h : b ≠ 0) : 0 < gcdI (absI a) (absI b) := by
  simp only [gcdI, absI, Int.toNat_natCast]
  have : 0 < Nat.gcd a.natAbs b.natAbs := Nat.gcd_pos_of_pos_right _ (Int.natAbs_pos.2 h)
  omega
theorem div_small {a g : Int} (ha : 0 ≤ a) (hg : 0 < g) : 0 ≤ a / g ∧ a / g ≤ a := ⟨Int.ediv_nonneg ha (Int.le_of_lt hg), Int.ediv_le_self _ ha⟩
def hasTrue : List Bool → Bool
  | [] => false
  | a :: l => a || hasTrue l
def idxTrue : List Bool → Nat → Int
  | [], _ => -1
  | a :: l, i => if a = true then i else idxTrue l (i + 1)
theorem idxTrue_has (l : List Bool) : ∀ i, decide (0 ≤ idxTrue l i) = hasTrue l := by
  induction l with
  | nil => intro i; rfl
  | cons a l ih =>
    intro i
    cases a with
    | true =>
      have e : idxTrue (true :: l) i = (i : Int) := if_pos rfl
      rw [e]; simp [hasTrue]
    | false =>
      have e : idxTrue (false :: l) i = idxTrue l (i + 1) := if_neg (by decide)
      rw [e, ih]; rfl
end Vm

/- Events, up; how long values are. -/
open Go
namespace Vm
def Ev.withP (x : Ev) (ps : List Pt) : Ev := (x.1, ps, x.2.2.1, x.2.2.2.1, x.2.2.2.2.1, x.2.2.2.2.2.1, x.2.2.2.2.2.2.1, x.2.2.2.2.2.2.2.1, x.2.2.2.2.2.2.2.2)
def zEv : Ev := (0, [], [], 0, 0, 0, 0, [], [])
def upAll (b : Int × Int) : List Pt → Option (List Pt)
  | [] => some []
  | p :: l => match Pt.up p b with
    | none => none
    | some q => match upAll b l with
      | none => none
      | some r => some (q :: r)
def Ev.upTail (x : Ev) (b : Int × Int) (done rest : List Pt) : Ev × Int := match upAll b rest with
    | none => (zEv, 20)
    | some ps => if (x.withP (done ++ ps)).right then (x.withP (done ++ ps), 0) else (zEv, 60)
def Ev.up (x : Ev) (b : Int × Int) : Ev × Int := if x.right then Ev.upTail x b [] x.2.1 else (zEv, 60)
theorem Ev.right_len {x : Ev} (h : x.right = true) : x.pitches.length ≤ 8 ∧ x.ties.length = x.pitches.length := by
  rw [Ev.right_eq] at h
  simp only [Bool.and_eq_true, decide_eq_true_eq] at h
  obtain ⟨_, _, _, h4, h5⟩ := h
  refine ⟨?_, h4⟩
  unfold Ev.shape at h5
  split at h5
  · simp only [Bool.and_eq_true, decide_eq_true_eq] at h5; omega
  · simp only [Bool.and_eq_true, decide_eq_true_eq] at h5; omega
theorem Ev.upTail_nil (x : Ev) (b : Int × Int) (done : List Pt) : Ev.upTail x b done [] = if (x.withP done).right then (x.withP done, 0) else (zEv, 60) := by simp [Ev.upTail, upAll]
theorem Ev.upTail_none (x : Ev) (b : Int × Int) (done rest : List Pt) (p : Pt) (h : Pt.up p b = none) : Ev.upTail x b done (p :: rest) = (zEv, 20) := by simp [Ev.upTail, upAll, h]
theorem Ev.upTail_some (x : Ev) (b : Int × Int) (done rest : List Pt) (p q : Pt) (h : Pt.up p b = some q) : Ev.upTail x b done (p :: rest) = Ev.upTail x b (done ++ [q]) rest := by
  simp only [Ev.upTail, upAll, h]
  cases upAll b rest <;> simp
theorem Pt.upE_zero {p : Pt} {b : Int × Int} : Pt.upE p b = 0 ↔ (Pt.up p b).isSome := by
  unfold Pt.upE; split <;> simp_all
/-! ### Values -/
def Vl.len (v : Vl) : (Int × Int) × Int := if v.right then
    (if 0 < v.2.2.1 then Rt.of ((if v.2.1 = 0 then 1 else if v.2.1 = 1 then 3 else 7) * v.2.2.2) ((if v.2.1 = 0 then 1 else if v.2.1 = 1 then 2 else 4) * 2 ^ v.1.toNat * v.2.2.1)
     else Rt.of (if v.2.1 = 0 then 1 else if v.2.1 = 1 then 3 else 7) ((if v.2.1 = 0 then 1 else if v.2.1 = 1 then 2 else 4) * 2 ^ v.1.toNat)) else ((0, 0), 40)
end Vm
namespace Vm
theorem upAll_get {b : Int × Int} : ∀ {l ps : List Pt}, upAll b l = some ps → ps.length = l.length ∧ ∀ (k : Nat) (p : Pt), l[k]? = some p → ∃ q, Pt.up p b = some q ∧ ps[k]? = some q
  | [], ps, h => by cases h; exact ⟨rfl, fun k p hp => by simp at hp⟩
  | p :: l, ps, h => by
    simp only [upAll] at h
    cases hu : Pt.up p b with
    | none => rw [hu] at h; cases h
    | some q =>
      rw [hu] at h
      cases ha : upAll b l with
      | none => rw [ha] at h; cases h
      | some r =>
        rw [ha] at h
        cases h
        obtain ⟨h1, h2⟩ := upAll_get ha
        refine ⟨by simp [h1], fun k p' hp => ?_⟩
        cases k with
        | zero => simp at hp; subst hp; exact ⟨q, hu, rfl⟩
        | succ k => simp at hp; obtain ⟨q', e1, e2⟩ := h2 k p' hp; exact ⟨q', e1, by simpa using e2⟩
theorem Pt.up_back {p q : Pt} {b : Int × Int} (h : Pt.up p b = some q) : Pt.up q (-b.1, -b.2) = some p := by
  obtain ⟨h1, h2, rfl, h4⟩ := Pt.up_some h
  exact Pt.up_eq h4 h1 (by rw [Pt.upTo_line]; omega) (by rw [Pt.upTo_num]; omega)
theorem upAll_back {b : Int × Int} : ∀ {l ps : List Pt}, upAll b l = some ps → upAll (-b.1, -b.2) ps = some l
  | [], ps, h => by cases h; rfl
  | p :: l, ps, h => by
    simp only [upAll] at h
    cases hu : Pt.up p b with
    | none => rw [hu] at h; cases h
    | some q =>
      rw [hu] at h
      cases ha : upAll b l with
      | none => rw [ha] at h; cases h
      | some r =>
        rw [ha] at h
        cases h
        simp only [upAll, Pt.up_back hu, upAll_back ha]
theorem Ev.up_cases (x : Ev) (b : Int × Int) : (x.right = true ∧ ∃ ps, upAll b x.2.1 = some ps ∧ (x.withP ps).right = true ∧ Ev.up x b = (x.withP ps, 0)) ∨ ((Ev.up x b).1 = zEv ∧ (Ev.up x b).2 ≠ 0) := by
  unfold Ev.up
  cases hr : x.right with
  | false => exact .inr ⟨rfl, by show (60 : Int) ≠ 0; decide⟩
  | true =>
    rw [if_pos rfl]
    unfold Ev.upTail
    cases hu : upAll b x.2.1 with
    | none => exact .inr ⟨rfl, by show (20 : Int) ≠ 0; decide⟩
    | some ps =>
      simp only [List.nil_append]
      by_cases hw : (x.withP ps).right = true
      · rw [if_pos hw]; exact .inl ⟨by simp, ps, by simp, hw, rfl⟩
      · rw [if_neg hw]; exact .inr ⟨rfl, by show (60 : Int) ≠ 0; decide⟩
theorem Ev.small_of {x : Ev} (h1 : x.2.1.length ≤ 1000) (h2 : x.2.2.1.length ≤ 1000) (h3 : x.2.2.2.2.2.2.2.1.length ≤ 1000) : Ev.small x = true := by
  simp only [Ev.small, Bool.and_eq_true, decide_eq_true_eq]; omega
theorem Ev.up_small {x : Ev} (b : Int × Int) (h1 : x.2.1.length ≤ 1000) (h2 : x.2.2.1.length ≤ 1000) (h3 : x.2.2.2.2.2.2.2.1.length ≤ 1000) : (Ev.up x b).1.small = true ∧ (Ev.up x b).1.2.2.2.2.2.2.2.1.length ≤ 1000 := by
  rcases Ev.up_cases x b with ⟨_, ps, hu, _, e⟩ | ⟨e, _⟩
  · rw [e]
    exact ⟨Ev.small_of (x := x.withP ps) (by have := (upAll_get hu).1; show ps.length ≤ 1000; omega) h2 h3, h3⟩
  · rw [e]; exact ⟨by decide, by decide⟩
theorem Ev.up_back {x : Ev} {b : Int × Int} {ps : List Pt} (hx : x.right = true) (hu : upAll b x.2.1 = some ps) (hw : (x.withP ps).right = true) (b' : Int × Int) (hb : x.2.1 ≠ [] → b' = (-b.1, -b.2)) : Ev.up (x.withP ps) b' = (x, 0) := by
  have e : upAll b' ps = some x.2.1 := by
    by_cases h0 : x.2.1 = []
    · rw [h0] at hu ⊢; cases hu; rfl
    · rw [hb h0]; exact upAll_back hu
  unfold Ev.up
  rw [hw, if_pos rfl]
  have e2 : Ev.upTail (x.withP ps) b' [] (x.withP ps).2.1 = (x, 0) := by
    unfold Ev.upTail
    rw [show (x.withP ps).2.1 = ps from rfl, e]
    simp only [List.nil_append]
    rw [show (x.withP ps).withP x.2.1 = x from rfl, hx, if_pos rfl]
  exact e2
theorem plain_nil : plain [] = true := by unfold plain; rw [U.valid_nil]; rfl
end Vm

