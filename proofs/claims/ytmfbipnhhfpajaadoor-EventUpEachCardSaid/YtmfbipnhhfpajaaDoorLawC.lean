/- Marks and pitches that rise, and which events are right, as runs of the value machine. -/
import Derived.Test.YtmfbipnhhfpajaaDoorLawB
import Derived.Test.YtmfbipnhhfpajaaDoorVmE
import Derived.KernelRfl
set_option maxRecDepth 100000
open Go Go.Proofs
namespace Vm.S06
noncomputable abbrev f49cuts : Cuts := fun _ => none
theorem f49_go {R : Type} (J : List Item → St → Option R) (kk : V → List Ob → Option R) (s : List UInt8) :
  vseg (E6 8) f49cuts 0 J (vend (E6 8) 0 (fb Tryd.f49).1.results.toList false kk) 100000 true [.code (fb Tryd.f49).2] (start ([V.str s]) ([])) =
  (bif decide ((↑s.length : Int) ≤ (40 : Int)) then
    (bif U.valid s then
      kk (V.bool !decide ((0 : Int) ≤ U.oddAt s s.length (0 : Nat))) ([])
    else kk (V.bool false) ([]))
  else kk (V.bool false) ([])) := by kernel_rfl

noncomputable abbrev f29cuts : Cuts := look [(4, [0, 5])]
noncomputable abbrev f29t4 : List Item := itemsAt (fb Tryd.f29).2 4
def f29s0 (s : List UInt8) (n1 : Int) : St := { fr := [(0, V.str s), (5, V.int IntKind.i64 n1)], hp := [], nx := 0 }
theorem f29_go {R : Type} (J : List Item → St → Option R) (kk : V → List Ob → Option R) (s : List UInt8) :
  vseg (E6 8) f29cuts 0 J (vend (E6 8) 0 (fb Tryd.f29).1.results.toList false kk) 100000 true [.code (fb Tryd.f29).2] (start ([V.str s, V.int IntKind.i64 (40 : Int)]) ([])) =
  (bif decide ((40 : Int) < (↑s.length : Int)) then
    kk (V.bool false) ([])
  else J f29t4 (f29s0 (s) (0 : Int))) := by kernel_rfl
theorem f29_0 {R : Type} (J : List Item → St → Option R) (kk : V → List Ob → Option R) (s : List UInt8) (n1 : Int) :
  vseg (E6 8) f29cuts 0 J (vend (E6 8) 0 (fb Tryd.f29).1.results.toList false kk) 100000 true f29t4 (f29s0 s n1) =
  (bif decide (n1 < (↑s.length : Int)) then
    (bif decide ((0 : Int) ≤ n1 ∧ n1 ≤ (↑s.length : Int) ∧ (↑s.length : Int) ≤ (↑s.length : Int) ∧ (↑s.length : Int) ≤ (↑s.length : Int)) then
      (bif decide ((↑(U.rune (List.take ((↑s.length : Int).toNat - n1.toNat) (List.drop n1.toNat s))) : Int) = (0 : Int)) then
        kk (V.bool false) ([])
      else (match idx s n1 with
          | some y2 => (bif decide ((↑y2.toNat : Int) < (32 : Int)) then
            kk (V.bool false) ([])
          else (match idx s n1 with
              | some y3 => (bif decide ((↑y3.toNat : Int) = (127 : Int)) then
                kk (V.bool false) ([])
              else J f29t4 (f29s0 (s) (IntKind.i64.wrap (n1 + (↑(U.rune (List.take ((↑s.length : Int).toNat - n1.toNat) (List.drop n1.toNat s))) : Int)))))
              | none => none))
          | none => none))
    else none)
  else kk (V.bool true) ([])) := by kernel_rfl

noncomputable abbrev f50cuts : Cuts := look [(2, [0, 5, 6, 7])]
noncomputable abbrev f50t2 : List Item := itemsAt (fb Tryd.f50).2 2
def f50s0 (s : List Int) (n1 : Int) : St := { fr := [(0, V.sl rI s), (5, V.sl rI s), (6, V.int IntKind.i64 (↑s.length : Int)), (7, V.int IntKind.i64 n1)], hp := [], nx := 0 }
theorem f50_go {R : Type} (J : List Item → St → Option R) (kk : V → List Ob → Option R) (s : List Int) :
  vseg (E6 8) f50cuts 0 J (vend (E6 8) 0 (fb Tryd.f50).1.results.toList false kk) 100000 true [.code (fb Tryd.f50).2] (start ([V.sl rI s]) ([])) =
  J f50t2 (f50s0 (s) (0 : Int)) := by kernel_rfl
theorem f50_0 {R : Type} (J : List Item → St → Option R) (kk : V → List Ob → Option R) (s : List Int) (n1 : Int) :
  vseg (E6 8) f50cuts 0 J (vend (E6 8) 0 (fb Tryd.f50).1.results.toList false kk) 100000 true f50t2 (f50s0 s n1) =
  (bif decide (n1 < (↑s.length : Int)) then
    (match idx s n1 with
      | some y2 => (bif decide (y2 < (1 : Int)) then
        kk (V.bool false) ([])
      else (bif decide ((4 : Int) < y2) then
          kk (V.bool false) ([])
        else J f50t2 (f50s0 (s) (IntKind.i64.wrap (n1 + (1 : Int))))))
      | none => none)
  else (bif decide (s.length < (4611686018427387904 : Nat)) then
      kk (V.bool (risesI s)) ([])
    else none)) := by kernel_rfl

noncomputable abbrev f53cuts : Cuts := look [(2, [0, 1, 7, 8])]
noncomputable abbrev f53t2 : List Item := itemsAt (fb Tryd.f53).2 2
def f53s0 (s : List (Int × Int × Int)) (n1 : Int) : St := { fr := [(0, V.sl rPitch s), (1, V.fn 54 [] []), (7, V.int IntKind.i64 (↑s.length : Int)), (8, V.int IntKind.i64 n1)], hp := [], nx := 0 }
theorem f53_go {R : Type} (J : List Item → St → Option R) (kk : V → List Ob → Option R) (s : List (Int × Int × Int)) :
  vseg (E6 8) f53cuts 0 J (vend (E6 8) 0 (fb Tryd.f53).1.results.toList false kk) 100000 true [.code (fb Tryd.f53).2] (start ([V.sl rPitch s, V.fn (54 : Nat) [] []]) ([])) =
  J f53t2 (f53s0 (s) (0 : Int)) := by kernel_rfl
theorem f53_0 {R : Type} (J : List Item → St → Option R) (kk : V → List Ob → Option R) (s : List (Int × Int × Int)) (n1 : Int) :
  vseg (E6 8) f53cuts 0 J (vend (E6 8) 0 (fb Tryd.f53).1.results.toList false kk) 100000 true f53t2 (f53s0 s n1) =
  (bif decide (n1 < (↑s.length : Int)) then
    (bif decide ((0 : Int) < n1) then
      (match idx s n1 with
        | some y2 => (match idx s (IntKind.i64.wrap (n1 - (1 : Int))) with
          | some y3 => (bif !decide ((0 : Int) < Pt.cmp y2 y3) then
            kk (V.bool false) ([])
          else J f53t2 (f53s0 (s) (IntKind.i64.wrap (n1 + (1 : Int)))))
          | none => none)
        | none => none)
    else J f53t2 (f53s0 (s) (IntKind.i64.wrap (n1 + (1 : Int)))))
  else kk (V.bool true) ([])) := by kernel_rfl

noncomputable abbrev f23cuts : Cuts := fun _ => none
theorem f23_go {R : Type} (J : List Item → St → Option R) (kk : V → List Ob → Option R) (p : Int × Int × Int) (b : Int × Int) :
  vseg (E6 8) f23cuts 0 J (vend (E6 8) 0 (fb Tryd.f23).1.results.toList false kk) 100000 true [.code (fb Tryd.f23).2] (start ([enc true rPitch p, enc true rIv b]) ([])) =
  (bif !Pt.right p then
    kk (V.tuple [V.agg [V.int IntKind.i64 (0 : Int), V.int IntKind.i64 (0 : Int), V.int IntKind.i64 (0 : Int)], V.int IntKind.i64 (20 : Int)]) ([])
  else (bif decide (b.fst < IntKind.i64.wrap ((0 : Int) - (77 : Int))) then
      kk (V.tuple [V.agg [V.int IntKind.i64 (0 : Int), V.int IntKind.i64 (0 : Int), V.int IntKind.i64 (0 : Int)], V.int IntKind.i64 (20 : Int)]) ([])
    else (bif decide ((77 : Int) < b.fst) then
        kk (V.tuple [V.agg [V.int IntKind.i64 (0 : Int), V.int IntKind.i64 (0 : Int), V.int IntKind.i64 (0 : Int)], V.int IntKind.i64 (20 : Int)]) ([])
      else (bif decide (b.snd < (-254 : Int)) then
          kk (V.tuple [V.agg [V.int IntKind.i64 (0 : Int), V.int IntKind.i64 (0 : Int), V.int IntKind.i64 (0 : Int)], V.int IntKind.i64 (20 : Int)]) ([])
        else (bif decide ((254 : Int) < b.snd) then
            kk (V.tuple [V.agg [V.int IntKind.i64 (0 : Int), V.int IntKind.i64 (0 : Int), V.int IntKind.i64 (0 : Int)], V.int IntKind.i64 (20 : Int)]) ([])
          else (bif Pt.mild p then
              (bif decide (IntKind.i64.wrap (IntKind.i64.wrap (Pt.line p + b.fst) - (-7 : Int)) < (0 : Int)) then
                kk (V.tuple [V.agg [V.int IntKind.i64 (0 : Int), V.int IntKind.i64 (0 : Int), V.int IntKind.i64 (0 : Int)], V.int IntKind.i64 (20 : Int)]) ([])
              else (bif Pt.mild p then
                  (bif Pt.mild ((IntKind.i64.wrap (IntKind.i64.wrap (Pt.line p + b.fst) - (-7 : Int))).tmod (7 : Int), Int.ofNat (0 : Nat), IntKind.i64.wrap (IntKind.i64.wrap ((IntKind.i64.wrap (IntKind.i64.wrap (Pt.line p + b.fst) - (-7 : Int))).tdiv (7 : Int)) + (-1 : Int))) then
                    (bif !Pt.right ((IntKind.i64.wrap (IntKind.i64.wrap (Pt.line p + b.fst) - (-7 : Int))).tmod (7 : Int), IntKind.i64.wrap (IntKind.i64.wrap (Pt.num p + b.snd) - Pt.num ((IntKind.i64.wrap (IntKind.i64.wrap (Pt.line p + b.fst) - (-7 : Int))).tmod (7 : Int), Int.ofNat (0 : Nat), IntKind.i64.wrap (IntKind.i64.wrap ((IntKind.i64.wrap (IntKind.i64.wrap (Pt.line p + b.fst) - (-7 : Int))).tdiv (7 : Int)) + (-1 : Int)))), IntKind.i64.wrap (IntKind.i64.wrap ((IntKind.i64.wrap (IntKind.i64.wrap (Pt.line p + b.fst) - (-7 : Int))).tdiv (7 : Int)) + (-1 : Int))) then
                      kk (V.tuple [V.agg [V.int IntKind.i64 (0 : Int), V.int IntKind.i64 (0 : Int), V.int IntKind.i64 (0 : Int)], V.int IntKind.i64 (20 : Int)]) ([])
                    else kk (V.tuple [V.agg [V.int IntKind.i64 ((IntKind.i64.wrap (IntKind.i64.wrap (Pt.line p + b.fst) - (-7 : Int))).tmod (7 : Int)), V.int IntKind.i64 (IntKind.i64.wrap (IntKind.i64.wrap (Pt.num p + b.snd) - Pt.num ((IntKind.i64.wrap (IntKind.i64.wrap (Pt.line p + b.fst) - (-7 : Int))).tmod (7 : Int), Int.ofNat (0 : Nat), IntKind.i64.wrap (IntKind.i64.wrap ((IntKind.i64.wrap (IntKind.i64.wrap (Pt.line p + b.fst) - (-7 : Int))).tdiv (7 : Int)) + (-1 : Int))))), V.int IntKind.i64 (IntKind.i64.wrap (IntKind.i64.wrap ((IntKind.i64.wrap (IntKind.i64.wrap (Pt.line p + b.fst) - (-7 : Int))).tdiv (7 : Int)) + (-1 : Int)))], V.int IntKind.i64 (0 : Int)]) ([]))
                  else none)
                else none))
            else none)))))) := by kernel_rfl

noncomputable abbrev f37cuts : Cuts := look [(6, [3, 4, 6, 8, 10])]
noncomputable abbrev f37t6 : List Item := itemsAt (fb Tryd.f37).2 6
def f37s0 (p : Int × Int × Int) (n1 : Int) (x2 : Int × Int) (x3 : Int × Int × Int) : St := { fr := [(3, V.ref 0 0 0 0), (4, V.ref 1 0 0 0), (6, V.int IntKind.i64 (bif Pt.right p then Pt.line p else (0 : Int))), (8, V.int IntKind.i64 (bif Pt.right p then Pt.num p else (0 : Int))), (10, V.int IntKind.i64 n1)], hp := [(0, Ob.var [V.int IntKind.i64 x2.fst, V.int IntKind.i64 x2.snd]), (1, Ob.var [V.int IntKind.i64 x3.fst, V.int IntKind.i64 x3.snd.fst, V.int IntKind.i64 x3.snd.snd])], nx := 2 }
theorem f37_go {R : Type} (J : List Item → St → Option R) (kk : V → List Ob → Option R) (p : Int × Int × Int) (b : Int × Int) :
  vseg (E6 8) f37cuts 0 J (vend (E6 8) 0 (fb Tryd.f37).1.results.toList false kk) 100000 true [.code (fb Tryd.f37).2] (start ([enc true rPitch p, enc true rIv b]) ([])) =
  (bif !decide ((bif Pt.right p then (0 : Int) else (20 : Int)) = (0 : Int)) then
    kk (V.tuple [V.agg [V.int IntKind.i64 (0 : Int), V.int IntKind.i64 (0 : Int), V.int IntKind.i64 (0 : Int)], V.int IntKind.i64 (20 : Int)]) ([])
  else (bif decide (b.fst < (-100 : Int)) then
      kk (V.tuple [V.agg [V.int IntKind.i64 (0 : Int), V.int IntKind.i64 (0 : Int), V.int IntKind.i64 (0 : Int)], V.int IntKind.i64 (20 : Int)]) ([])
    else (bif decide ((100 : Int) < b.fst) then
        kk (V.tuple [V.agg [V.int IntKind.i64 (0 : Int), V.int IntKind.i64 (0 : Int), V.int IntKind.i64 (0 : Int)], V.int IntKind.i64 (20 : Int)]) ([])
      else (bif decide (b.snd < (-200 : Int)) then
          kk (V.tuple [V.agg [V.int IntKind.i64 (0 : Int), V.int IntKind.i64 (0 : Int), V.int IntKind.i64 (0 : Int)], V.int IntKind.i64 (20 : Int)]) ([])
        else (bif decide ((200 : Int) < b.snd) then
            kk (V.tuple [V.agg [V.int IntKind.i64 (0 : Int), V.int IntKind.i64 (0 : Int), V.int IntKind.i64 (0 : Int)], V.int IntKind.i64 (20 : Int)]) ([])
          else J f37t6 (f37s0 (p) (Int.negSucc 1) (b) ((0 : Int), (0 : Int), (0 : Int)))))))) := by kernel_rfl
theorem f37_0 {R : Type} (J : List Item → St → Option R) (kk : V → List Ob → Option R) (p : Int × Int × Int) (n1 : Int) (x2 : Int × Int) (x3 : Int × Int × Int) :
  vseg (E6 8) f37cuts 0 J (vend (E6 8) 0 (fb Tryd.f37).1.results.toList false kk) 100000 true f37t6 (f37s0 p n1 x2 x3) =
  (bif decide (n1 ≤ (2 : Int)) then
    (bif decide (IntKind.i64.wrap (IntKind.i64.wrap ((bif Pt.right p then Pt.line p else (0 : Int)) + x2.fst) + (7 : Int)) < (0 : Int)) then
      kk (V.tuple [V.agg [V.int IntKind.i64 (0 : Int), V.int IntKind.i64 (0 : Int), V.int IntKind.i64 (0 : Int)], V.int IntKind.i64 (20 : Int)]) ([])
    else (bif decide ((bif Pt.right ((IntKind.i64.wrap (IntKind.i64.wrap ((bif Pt.right p then Pt.line p else (0 : Int)) + x2.fst) + (7 : Int))).tmod (7 : Int), n1, IntKind.i64.wrap (IntKind.i64.wrap ((IntKind.i64.wrap (IntKind.i64.wrap ((bif Pt.right p then Pt.line p else (0 : Int)) + x2.fst) + (7 : Int))).tdiv (7 : Int)) - (1 : Int))) then (0 : Int) else (20 : Int)) = (0 : Int)) then
        (bif decide ((bif Pt.right ((IntKind.i64.wrap (IntKind.i64.wrap ((bif Pt.right p then Pt.line p else (0 : Int)) + x2.fst) + (7 : Int))).tmod (7 : Int), n1, IntKind.i64.wrap (IntKind.i64.wrap ((IntKind.i64.wrap (IntKind.i64.wrap ((bif Pt.right p then Pt.line p else (0 : Int)) + x2.fst) + (7 : Int))).tdiv (7 : Int)) - (1 : Int))) then Pt.num ((IntKind.i64.wrap (IntKind.i64.wrap ((bif Pt.right p then Pt.line p else (0 : Int)) + x2.fst) + (7 : Int))).tmod (7 : Int), n1, IntKind.i64.wrap (IntKind.i64.wrap ((IntKind.i64.wrap (IntKind.i64.wrap ((bif Pt.right p then Pt.line p else (0 : Int)) + x2.fst) + (7 : Int))).tdiv (7 : Int)) - (1 : Int))) else (0 : Int)) = IntKind.i64.wrap ((bif Pt.right p then Pt.num p else (0 : Int)) + x2.snd)) then
          kk (V.tuple [V.agg [V.int IntKind.i64 ((IntKind.i64.wrap (IntKind.i64.wrap ((bif Pt.right p then Pt.line p else (0 : Int)) + x2.fst) + (7 : Int))).tmod (7 : Int)), V.int IntKind.i64 n1, V.int IntKind.i64 (IntKind.i64.wrap (IntKind.i64.wrap ((IntKind.i64.wrap (IntKind.i64.wrap ((bif Pt.right p then Pt.line p else (0 : Int)) + x2.fst) + (7 : Int))).tdiv (7 : Int)) - (1 : Int)))], V.int IntKind.i64 (0 : Int)]) ([])
        else J f37t6 (f37s0 (p) (IntKind.i64.wrap (n1 + (1 : Int))) (x2) (x3)))
      else J f37t6 (f37s0 (p) (IntKind.i64.wrap (n1 + (1 : Int))) (x2) (x3))))
  else kk (V.tuple [V.agg [V.int IntKind.i64 (0 : Int), V.int IntKind.i64 (0 : Int), V.int IntKind.i64 (0 : Int)], V.int IntKind.i64 (20 : Int)]) ([])) := by kernel_rfl

end Vm.S06

open Go Go.Proofs
namespace Vm.S06
theorem f49_run {R : Type} (kk : V → List Ob → Option R) (s : List UInt8) :
    vrun (E6 8) f49cuts 0 100000 (vend (E6 8) 0 (fb Tryd.f49).1.results.toList false kk) 1 [.code (fb Tryd.f49).2] (start [.str s] []) = kk (.bool (plain s)) [] := by
  rw [vrun_succ, f49_go]
  unfold plain
  by_cases h : s.length ≤ 40
  · rw [bif_pos (by exact decide_eq_true (by omega)), decide_eq_true h, Bool.true_and]
    cases hv : U.valid s with
    | false => rfl
    | true =>
      have := U.oddAt_calm s s.length 0 (by omega) (by omega) hv
      rw [List.drop_zero] at this
      rw [cond_true, this, Bool.not_not, Bool.true_and]
  · rw [bif_neg (by exact decide_eq_false (by omega)), decide_eq_false h, Bool.false_and]

theorem f29_loop {R : Type} (kk : V → List Ob → Option R) (s : List UInt8) (hb : s.length < 4611686018427387904) : ∀ (d i : Nat), i ≤ s.length → s.length ≤ i + d →
    vrun (E6 8) f29cuts 0 100000 (vend (E6 8) 0 (fb Tryd.f29).1.results.toList false kk) (d + 1) f29t4 (f29s0 s i) = kk (.bool (U.valid (s.drop i) && U.calm (s.drop i))) [] := by
  intro d
  induction d with
  | zero =>
    intro i hi hd
    rw [vrun_succ, f29_0, bif_neg (by exact decide_eq_false (by omega)), List.drop_eq_nil_of_le (by omega), U.valid_nil]; rfl
  | succ d ih =>
    intro i hi hd
    rw [vrun_succ, f29_0]
    by_cases hlt : i < s.length
    · rw [bif_pos (by exact decide_eq_true (by omega)), bif_pos (by exact decide_eq_true (by omega)), td s i i rfl, idx_nat, List.getElem?_eq_getElem hlt]
      dsimp only
      have hne : s.drop i ≠ [] := by
        intro e
        have := congrArg List.length e
        simp only [List.length_drop, List.length_nil] at this; omega
      have hle := U.rune_le (s.drop i)
      rw [List.length_drop] at hle
      by_cases h0 : U.rune (s.drop i) = 0
      · rw [bif_pos (by exact decide_eq_true (by omega)), U.valid_bad hne h0]; rfl
      · rw [bif_neg (by exact decide_eq_false (by omega)), U.valid_step hne h0, List.drop_drop]
        have hc : U.calm (s.drop i) = (decide (32 ≤ U.by s[i] ∧ U.by s[i] ≠ 127) && U.calm (s.drop (i + 1))) := by
          rw [List.drop_eq_getElem_cons hlt]; rfl
        by_cases h1 : (s[i].toNat : Int) < 32
        · rw [bif_pos (decide_eq_true h1), hc, show decide (32 ≤ U.by s[i] ∧ U.by s[i] ≠ 127) = false from decide_eq_false (by simp only [U.by]; omega)]; simp
        · rw [bif_neg (decide_eq_false h1)]
          by_cases h2 : (s[i].toNat : Int) = 127
          · rw [bif_pos (decide_eq_true h2), hc, show decide (32 ≤ U.by s[i] ∧ U.by s[i] ≠ 127) = false from decide_eq_false (by simp only [U.by]; omega)]; simp
          · rw [bif_neg (decide_eq_false h2), w64 (by omega) (by omega)]
            have e := ih (i + U.rune (s.drop i)) (by omega) (by omega)
            rw [show ((i + U.rune (s.drop i) : Nat) : Int) = (i : Int) + (U.rune (s.drop i) : Int) from by omega] at e
            rw [e]
            -- the whole is calm just if the rest is
            have hd2 := (dec_rune (s.drop i) h0).2
            have hcs := U.calm_split (s.drop i) (U.rune (s.drop i))
            rw [List.drop_drop] at hcs
            have : U.calm ((s.drop i).take (U.rune (s.drop i))) = true := by
              cases hx : U.calm ((s.drop i).take (U.rune (s.drop i))) with
              | true => rfl
              | false =>
                exfalso
                have := (dec_rune (s.drop i) h0).1
                rw [hx] at hd2
                rw [List.drop_eq_getElem_cons hlt] at hx hd2
                exact one_odd _ _ (by rw [List.drop_eq_getElem_cons hlt] at h0; exact h0) hx (by simp only [U.by]; omega) (by simp only [U.by]; omega)
            rw [hcs, this, Bool.true_and]
    · rw [bif_neg (by exact decide_eq_false (by omega)), List.drop_eq_nil_of_le (by omega), U.valid_nil]; rfl
theorem f29_run {R : Type} (kk : V → List Ob → Option R) (s : List UInt8) :
    ∃ n, vrun (E6 8) f29cuts 0 100000 (vend (E6 8) 0 (fb Tryd.f29).1.results.toList false kk) n [.code (fb Tryd.f29).2] (start [.str s, .int .i64 40] []) = kk (.bool (plain s)) [] := by
  refine ⟨s.length + 1 + 1, ?_⟩
  rw [vrun_succ, f29_go]
  unfold plain
  by_cases h : s.length ≤ 40
  · rw [bif_neg (by exact decide_eq_false (by omega)), decide_eq_true h, Bool.true_and]
    exact f29_loop kk s (by omega) s.length 0 (by omega) (by omega)
  · rw [bif_pos (by exact decide_eq_true (by omega)), decide_eq_false h, Bool.false_and]

theorem f50_loop {R : Type} (kk : V → List Ob → Option R) (l : List Int) (hb : l.length < 4611686018427387904) : ∀ (d i : Nat), i + d = l.length →
    vrun (E6 8) f50cuts 0 100000 (vend (E6 8) 0 (fb Tryd.f50).1.results.toList false kk) (d + 1) f50t2 (f50s0 l i) = kk (.bool ((l.drop i).all (fun m => decide (1 ≤ m ∧ m ≤ 4)) && risesI l)) [] := by
  intro d
  induction d with
  | zero =>
    intro i hi
    rw [vrun_succ, f50_0, bif_neg (by exact decide_eq_false (by omega)), bif_pos (decide_eq_true hb), List.drop_eq_nil_of_le (by omega)]; rfl
  | succ d ih =>
    intro i hi
    have hlt : i < l.length := by omega
    rw [vrun_succ, f50_0, bif_pos (by exact decide_eq_true (by omega)), wrap_succ (by omega), ih (i + 1) (by omega), idx_nat, List.getElem?_eq_getElem hlt]
    dsimp only
    rw [List.drop_eq_getElem_cons hlt, List.all_cons]
    by_cases h1 : l[i] < 1
    · rw [bif_pos (decide_eq_true h1), show decide (1 ≤ l[i] ∧ l[i] ≤ 4) = false from decide_eq_false (by omega)]; rfl
    · rw [bif_neg (decide_eq_false h1)]
      by_cases h4 : 4 < l[i]
      · rw [bif_pos (decide_eq_true h4), show decide (1 ≤ l[i] ∧ l[i] ≤ 4) = false from decide_eq_false (by omega)]; rfl
      · rw [bif_neg (decide_eq_false h4), show decide (1 ≤ l[i] ∧ l[i] ≤ 4) = true from decide_eq_true (by omega), Bool.true_and]
theorem f50_run {R : Type} (kk : V → List Ob → Option R) (l : List Int) (hb : l.length < 4611686018427387904) :
    ∃ n, vrun (E6 8) f50cuts 0 100000 (vend (E6 8) 0 (fb Tryd.f50).1.results.toList false kk) n [.code (fb Tryd.f50).2] (start [enc false srI' l] []) = kk (.bool (marked l)) [] := by
  refine ⟨l.length + 1 + 1, ?_⟩
  rw [vrun_succ]
  refine (f50_go _ kk l).trans ?_
  exact f50_loop kk l hb l.length 0 (by omega)

theorem f53_loop {R : Type} (kk : V → List Ob → Option R) (l : List Pt) (hb : l.length < 4611686018427387904) : ∀ (d i : Nat), i + d = l.length →
    vrun (E6 8) f53cuts 0 100000 (vend (E6 8) 0 (fb Tryd.f53).1.results.toList false kk) (d + 1) f53t2 (f53s0 l i) = kk (.bool (risesP (l.drop (i - 1)))) [] := by
  intro d
  induction d with
  | zero =>
    intro i hi
    rw [vrun_succ, f53_0, bif_neg (by exact decide_eq_false (by omega)), risesP_short (by rw [List.length_drop]; omega)]
  | succ d ih =>
    intro i hi
    have hlt : i < l.length := by omega
    rw [vrun_succ, f53_0, bif_pos (by exact decide_eq_true (by omega)), wrap_succ (by omega), ih (i + 1) (by omega)]
    match i, hi, hlt with
    | 0, hi, hlt => rw [bif_neg (by exact decide_eq_false (by omega))]
    | i + 1, hi, hlt =>
      rw [bif_pos (by exact decide_eq_true (by omega)), w64 (n := ((i + 1 : Nat) : Int) - 1) (by omega) (by omega), idx_nat, idx_get l _ i (by omega), List.getElem?_eq_getElem hlt, List.getElem?_eq_getElem (by omega : i < l.length)]
      dsimp only
      rw [show i + 1 - 1 = i from rfl, show i + 1 + 1 - 1 = i + 1 from rfl, risesP_drop l i hlt]
      by_cases h : Pt.cmp l[i + 1] l[i] > 0
      · rw [bif_neg (by rw [show decide (0 < Pt.cmp l[i + 1] l[i]) = true from decide_eq_true h]; rfl), decide_eq_true h, Bool.true_and]
      · rw [bif_pos (by rw [show decide (0 < Pt.cmp l[i + 1] l[i]) = false from decide_eq_false h]; rfl), decide_eq_false h, Bool.false_and]
theorem f53_run {R : Type} (kk : V → List Ob → Option R) (l : List Pt) (hb : l.length < 4611686018427387904) :
    ∃ n, vrun (E6 8) f53cuts 0 100000 (vend (E6 8) 0 (fb Tryd.f53).1.results.toList false kk) n [.code (fb Tryd.f53).2] (start [enc false (.cons (.sl rPitch) .nil) l, .fn 54 [] []] []) = kk (.bool (risesP l)) [] := by
  refine ⟨l.length + 1 + 1, ?_⟩
  rw [vrun_succ]
  refine (f53_go _ kk l).trans ?_
  exact f53_loop kk l hb l.length 0 (by omega)
end Vm.S06

open Go Go.Proofs
namespace Vm.S06
abbrev upR (p : Pt) (b : Int × Int) : V := .tuple [enc true rPitch (Pt.upV p b), .int .i64 (Pt.upE p b)]
theorem upR_none {p : Pt} {b : Int × Int} (h : Pt.up p b = none) : upR p b = .tuple [.agg [.int .i64 0, .int .i64 0, .int .i64 0], .int .i64 20] := by
  simp only [upR, Pt.upV, Pt.upE, h]; rfl
theorem f23_run {R : Type} (kk : V → List Ob → Option R) (p : Pt) (b : Int × Int) :
    vrun (E6 8) f23cuts 0 100000 (vend (E6 8) 0 (fb Tryd.f23).1.results.toList false kk) 1 [.code (fb Tryd.f23).2] (start [enc true rPitch p, enc true rIv b] []) = kk (upR p b) [] := by
  rw [vrun_succ, f23_go]
  cases hp : Pt.right p with
  | false => rw [upR_none (Pt.up_wrong hp)]; rfl
  | true =>
    rw [bif_neg (by rfl), w64 (n := (0 : Int) - 77) (by decide) (by decide)]
    have hl := Pt.line_le hp
    have hr := (Pt.right_iff p).1 hp
    by_cases hb : -77 ≤ b.1 ∧ b.1 ≤ 77 ∧ -254 ≤ b.2 ∧ b.2 ≤ 254
    · obtain ⟨b1, b2, b3, b4⟩ := hb
      rw [bif_neg (by exact decide_eq_false (by omega)), bif_neg (by exact decide_eq_false (by omega)), bif_neg (by exact decide_eq_false (by omega)), bif_neg (by exact decide_eq_false (by omega)), Pt.mild_of hp, cond_true, w64 (n := p.line + b.1) (by omega) (by omega), w64 (n := p.line + b.1 - -7) (by omega) (by omega), show p.line + b.1 - -7 = p.line + b.1 + 7 from by omega]
      generalize ht : p.line + b.1 + 7 = t
      by_cases h0 : t < 0
      · rw [bif_pos (decide_eq_true h0)]
        have : Pt.up p b = none := by unfold Pt.up; rw [decide_eq_false (p := 0 ≤ p.line + b.1 + 7) (by omega)]; simp
        rw [upR_none this]
      · rw [bif_neg (decide_eq_false h0), cond_true, Int.tmod_eq_emod_of_nonneg (by omega), Int.tdiv_eq_ediv_of_nonneg (by omega), w64 (n := t / 7) (by omega) (by omega), w64 (n := t / 7 + -1) (by omega) (by omega), show t / 7 + -1 = t / 7 - 1 from by omega]
        have hm : Pt.mild (t % 7, Int.ofNat 0, t / 7 - 1) = true := by simp only [Pt.mild, decide_eq_true_eq]; simp; omega
        have hh := Pt.half_le (s := t % 7) (by omega) (by omega)
        have hz : Pt.num (t % 7, Int.ofNat 0, t / 7 - 1) = 12 * (t / 7 - 1 + 1) + Pt.half (t % 7) + 0 := rfl
        rw [hm, cond_true, w64 (n := p.num + b.2) (by omega) (by omega), w64 (n := p.num + b.2 - Pt.num (t % 7, Int.ofNat 0, t / 7 - 1)) (by rw [hz]; omega) (by rw [hz]; omega)]
        have ht' : (t % 7, p.num + b.2 - Pt.num (t % 7, Int.ofNat 0, t / 7 - 1), t / 7 - 1) = Pt.upTo p b := by unfold Pt.upTo; rw [ht]; rfl
        rw [ht']
        cases hu : Pt.right (Pt.upTo p b) with
        | false =>
          have : Pt.up p b = none := by unfold Pt.up; rw [hu]; simp
          rw [upR_none this]; rfl
        | true =>
          have : Pt.up p b = some (Pt.upTo p b) := by unfold Pt.up; rw [hu, hp, decide_eq_true (p := 0 ≤ p.line + b.1 + 7) (by omega)]; rfl
          rw [bif_neg (by rfl)]
          simp only [upR, Pt.upV, Pt.upE, this, Option.getD_some, Option.isSome_some, if_true]
          rw [← ht']; rfl
    · rw [upR_none (Pt.up_none (by omega))]
      simp only [Bool.cond_eq_ite, decide_eq_true_eq]
      repeat' split
      all_goals first | rfl | (exfalso; omega)

theorem f37_loop {R : Type} (kk : V → List Ob → Option R) (p : Pt) (b : Int × Int) (hp : p.right = true) (hb : -100 ≤ b.1 ∧ b.1 ≤ 100 ∧ -200 ≤ b.2 ∧ b.2 ≤ 200) : ∀ (d : Nat) (i : Int), i + d = 3 → -2 ≤ i → (∀ q, Pt.up p b = some q → i ≤ q.2.1) →
    vrun (E6 8) f37cuts 0 100000 (vend (E6 8) 0 (fb Tryd.f37).1.results.toList false kk) (d + 1) f37t6 (f37s0 p i b (0, 0, 0)) = kk (upR p b) [] := by
  intro d
  have hl := Pt.line_le hp
  have hr := (Pt.right_iff p).1 hp
  induction d with
  | zero =>
    intro i hi h2 hq
    rw [vrun_succ, f37_0, bif_neg (by exact decide_eq_false (by omega))]
    have : Pt.up p b = none := by
      cases hu : Pt.up p b with
      | none => rfl
      | some q =>
        have h4 := (Pt.right_iff q).1 (Pt.up_some hu).2.2.2
        have := hq q hu
        omega
    rw [upR_none this]
  | succ d ih =>
    intro i hi h2 hq
    rw [vrun_succ, f37_0, bif_pos (by exact decide_eq_true (by omega)), hp, cond_true, cond_true]
    rw [w64 (n := p.line + b.1) (by omega) (by omega), w64 (n := p.line + b.1 + 7) (by omega) (by omega)]
    generalize ht : p.line + b.1 + 7 = t
    by_cases h0 : t < 0
    · rw [bif_pos (decide_eq_true h0)]
      have : Pt.up p b = none := by unfold Pt.up; rw [decide_eq_false (p := 0 ≤ p.line + b.1 + 7) (by omega)]; simp
      rw [upR_none this]
    · rw [bif_neg (decide_eq_false h0), Int.tmod_eq_emod_of_nonneg (by omega), Int.tdiv_eq_ediv_of_nonneg (by omega), w64 (n := t / 7) (by omega) (by omega), w64 (n := t / 7 - 1) (by omega) (by omega), w64 (n := p.num + b.2) (by omega) (by omega), w64 (n := i + 1) (by omega) (by omega)]
      have hline : Pt.line (t % 7, i, t / 7 - 1) = p.line + b.1 := by show 7 * (t / 7 - 1) + t % 7 = p.line + b.1; omega
      have go : Pt.up p b ≠ some (t % 7, i, t / 7 - 1) → vrun (E6 8) f37cuts 0 100000 (vend (E6 8) 0 (fb Tryd.f37).1.results.toList false kk) (d + 1) f37t6 (f37s0 p (i + 1) b (0, 0, 0)) = kk (upR p b) [] := fun hne => by
        refine ih (i + 1) (by omega) (by omega) fun q hu => ?_
        have h1 := hq q hu
        obtain ⟨_, _, rfl, h4⟩ := Pt.up_some hu
        by_cases e : (Pt.upTo p b).2.1 = i
        · exfalso
          apply hne
          rw [hu]
          have e1 : (Pt.upTo p b).1 = t % 7 := by simp only [Pt.upTo]; rw [ht]
          have e3 : (Pt.upTo p b).2.2 = t / 7 - 1 := by simp only [Pt.upTo]; rw [ht]
          rw [← e, ← e1, ← e3]
        · omega
      cases hu : Pt.right (t % 7, i, t / 7 - 1) with
      | false =>
        rw [cond_false, bif_neg (by rfl)]
        exact go fun e => by have := (Pt.up_some e).2.2.2; rw [hu] at this; cases this
      | true =>
        rw [cond_true, cond_true, bif_pos (by rfl)]
        by_cases hn : Pt.num (t % 7, i, t / 7 - 1) = p.num + b.2
        · rw [bif_pos (decide_eq_true hn)]
          have := Pt.up_eq (b := b) hp hu hline hn
          simp only [upR, Pt.upV, Pt.upE, this, Option.getD_some, Option.isSome_some, if_true]; rfl
        · rw [bif_neg (decide_eq_false hn)]
          exact go fun e => by
            obtain ⟨_, _, h3, _⟩ := Pt.up_some e
            have := Pt.upTo_num p b
            rw [← h3] at this
            exact hn this
theorem f37_run {R : Type} (kk : V → List Ob → Option R) (p : Pt) (b : Int × Int) :
    ∃ n, vrun (E6 8) f37cuts 0 100000 (vend (E6 8) 0 (fb Tryd.f37).1.results.toList false kk) n [.code (fb Tryd.f37).2] (start [enc true rPitch p, enc true rIv b] []) = kk (upR p b) [] := by
  refine ⟨5 + 1 + 1, ?_⟩
  rw [vrun_succ, f37_go]
  cases hp : Pt.right p with
  | false => rw [upR_none (Pt.up_wrong hp)]; rfl
  | true =>
    rw [cond_true, bif_neg (by rfl)]
    by_cases hb : -100 ≤ b.1 ∧ b.1 ≤ 100 ∧ -200 ≤ b.2 ∧ b.2 ≤ 200
    · rw [bif_neg (by exact decide_eq_false (by omega)), bif_neg (by exact decide_eq_false (by omega)), bif_neg (by exact decide_eq_false (by omega)), bif_neg (by exact decide_eq_false (by omega))]
      exact f37_loop kk p b hp hb 5 (-2) (by decide) (by decide) fun q hu => ((Pt.right_iff q).1 (Pt.up_some hu).2.2.2).2.2.1
    · rw [upR_none (Pt.up_none (by omega))]
      simp only [Bool.cond_eq_ite, decide_eq_true_eq]
      repeat' split
      all_goals first | rfl | (exfalso; omega)

def f49e : Entry Tryd.prog gls := .one 49 false rS (by intro h; cases h <;> rfl) (fun (x : List UInt8) => (true, .bool (plain x))) fun x h => by
  have _ := h
  have hn := f49_run (fun v os => some (v, os)) x
  exact contract_run (fn := (fb Tryd.f49).1) (c := (fb Tryd.f49).2) mixed (ready6 8) (glE6 8) Tryd.func49 (by kernel_rfl) rfl rfl (by kernel_rfl) hn

def f29e : Entry Tryd.prog gls := .two 29 false rS false rI (by intro h; cases h <;> rfl) (by intro h; cases h <;> rfl) (fun (x : List UInt8) (y : Int) => (isInt y 40, .bool (plain x))) fun x y h => by
  have h : y = (40 : Int) := isInt_eq h
  subst h
  obtain ⟨n, hn⟩ := f29_run (fun v os => some (v, os)) x
  exact contract_run (fn := (fb Tryd.f29).1) (c := (fb Tryd.f29).2) mixed (ready6 8) (glE6 8) Tryd.func29 (by kernel_rfl) rfl rfl (by kernel_rfl) hn
abbrev srP' : Ks := .cons (.sl rPitch) .nil
def f50e : Entry Tryd.prog gls := .one 50 false srI' (by intro h; cases h <;> rfl) (fun (x : List Int) => (decide (x.length < 4611686018427387904), .bool (marked x))) fun x h => by
  have _ := h
  obtain ⟨n, hn⟩ := f50_run (fun v os => some (v, os)) x (of_decide_eq_true h)
  exact contract_run (fn := (fb Tryd.f50).1) (c := (fb Tryd.f50).2) mixed (ready6 8) (glE6 8) Tryd.func50 (by kernel_rfl) rfl rfl (by kernel_rfl) hn

def f53e : Entry Tryd.prog gls := .oneF 53 false srP' (by intro h; cases h <;> rfl) 54 (fun (x : List Pt) => (decide (x.length < 4611686018427387904), .bool (risesP x))) fun x h => by
  have _ := h
  obtain ⟨n, hn⟩ := f53_run (fun v os => some (v, os)) x (of_decide_eq_true h)
  exact contract_run (fn := (fb Tryd.f53).1) (c := (fb Tryd.f53).2) mixed (ready6 8) (glE6 8) Tryd.func53 (by kernel_rfl) rfl rfl (by kernel_rfl) hn

def f23e : Entry Tryd.prog gls := .two 23 true rPitch true rIv (by intro h; cases h <;> rfl) (by intro h; cases h <;> rfl) (fun (x : Pt) (y : Int × Int) => (true, upR x y)) fun x y h => by
  have _ := h
  have hn := f23_run (fun v os => some (v, os)) x y
  exact contract_run (fn := (fb Tryd.f23).1) (c := (fb Tryd.f23).2) mixed (ready6 8) (glE6 8) Tryd.func23 (by kernel_rfl) rfl rfl (by kernel_rfl) hn

def f37e : Entry Tryd.prog gls := .two 37 true rPitch true rIv (by intro h; cases h <;> rfl) (by intro h; cases h <;> rfl) (fun (x : Pt) (y : Int × Int) => (true, upR x y)) fun x y h => by
  have _ := h
  obtain ⟨n, hn⟩ := f37_run (fun v os => some (v, os)) x y
  exact contract_run (fn := (fb Tryd.f37).1) (c := (fb Tryd.f37).2) mixed (ready6 8) (glE6 8) Tryd.func37 (by kernel_rfl) rfl rfl (by kernel_rfl) hn

noncomputable def es7 : List (Entry Tryd.prog gls) := [f49e, f29e, f50e, f53e, f23e, f37e] ++ es6
noncomputable def E7 (n : Nat) : Env := interp fns (look tys) gls mvs (tabOf es7) 100000 n
theorem ready7 (n : Nat) : Ready Tryd.prog (E7 n) := ready_of mixed fnsAll tysOk n
theorem glE7 (n : Nat) : (E7 n).gl = gls := by cases n <;> rfl
end Vm.S06

open Go Go.Proofs
namespace Vm.S06
noncomputable abbrev f24cuts : Cuts := look [(3, [1]), (5, [1]), (8, [1, 64, 65, 66])]
noncomputable abbrev f24t8 : List Item := itemsAt (fb Tryd.f24).2 8
noncomputable abbrev f24t5 : List Item := itemsAt (fb Tryd.f24).2 5
noncomputable abbrev f24t3 : List Item := itemsAt (fb Tryd.f24).2 3
def f24s0 (x1 : Int × List (Int × Int × Int) × List Bool × Int × Int × Int × Int × List Int × List UInt8) : St := { fr := [(1, V.ref 0 0 0 0)], hp := [(0, Ob.var [V.int IntKind.i64 x1.fst, V.sl rPitch x1.snd.fst, V.sl rB x1.snd.snd.fst, V.int IntKind.i64 x1.snd.snd.snd.fst, V.int IntKind.i64 x1.snd.snd.snd.snd.fst, V.int IntKind.i64 x1.snd.snd.snd.snd.snd.fst, V.int IntKind.i64 x1.snd.snd.snd.snd.snd.snd.fst, V.sl rI x1.snd.snd.snd.snd.snd.snd.snd.fst, V.str x1.snd.snd.snd.snd.snd.snd.snd.snd])], nx := 1 }
def f24s1 (x2 : Int × List (Int × Int × Int) × List Bool × Int × Int × Int × Int × List Int × List UInt8) : St := { fr := [(1, V.ref 0 0 0 0)], hp := [(0, Ob.var [V.int IntKind.i64 x2.fst, V.sl rPitch x2.snd.fst, V.sl rB x2.snd.snd.fst, V.int IntKind.i64 x2.snd.snd.snd.fst, V.int IntKind.i64 x2.snd.snd.snd.snd.fst, V.int IntKind.i64 x2.snd.snd.snd.snd.snd.fst, V.int IntKind.i64 x2.snd.snd.snd.snd.snd.snd.fst, V.sl rI x2.snd.snd.snd.snd.snd.snd.snd.fst, V.str x2.snd.snd.snd.snd.snd.snd.snd.snd])], nx := 1 }
def f24s2 (x2 : Int × List (Int × Int × Int) × List Bool × Int × Int × Int × Int × List Int × List UInt8) (n3 : Int) (x4 : Int × List (Int × Int × Int) × List Bool × Int × Int × Int × Int × List Int × List UInt8) : St := { fr := [(1, V.ref 0 0 0 0), (64, V.sl rPitch x2.snd.fst), (65, V.int IntKind.i64 (↑x2.snd.fst.length : Int)), (66, V.int IntKind.i64 n3)], hp := [(0, Ob.var [V.int IntKind.i64 x4.fst, V.sl rPitch x4.snd.fst, V.sl rB x4.snd.snd.fst, V.int IntKind.i64 x4.snd.snd.snd.fst, V.int IntKind.i64 x4.snd.snd.snd.snd.fst, V.int IntKind.i64 x4.snd.snd.snd.snd.snd.fst, V.int IntKind.i64 x4.snd.snd.snd.snd.snd.snd.fst, V.sl rI x4.snd.snd.snd.snd.snd.snd.snd.fst, V.str x4.snd.snd.snd.snd.snd.snd.snd.snd])], nx := 1 }
theorem f24_go {R : Type} (J : List Item → St → Option R) (kk : V → List Ob → Option R) (x : Int × List (Int × Int × Int) × List Bool × Int × Int × Int × Int × List Int × List UInt8) :
  vseg (E7 8) f24cuts 0 J (vend (E7 8) 0 (fb Tryd.f24).1.results.toList false kk) 100000 true [.code (fb Tryd.f24).2] (start ([enc true rEvent x]) ([])) =
  (bif !Vl.right (x.snd.snd.snd.fst, x.snd.snd.snd.snd.fst, x.snd.snd.snd.snd.snd.fst, x.snd.snd.snd.snd.snd.snd.fst) then
    kk (V.bool false) ([])
  else (bif !plain x.snd.snd.snd.snd.snd.snd.snd.snd then
      kk (V.bool false) ([])
    else (bif decide (List.length x.snd.snd.snd.snd.snd.snd.snd.fst < (4611686018427387904 : Nat)) then
        (bif !marked x.snd.snd.snd.snd.snd.snd.snd.fst then
          kk (V.bool false) ([])
        else (bif !decide ((↑(List.length x.snd.snd.fst) : Int) = (↑(List.length x.snd.fst) : Int)) then
            kk (V.bool false) ([])
          else J f24t3 (f24s0 (x))))
      else none))) := by kernel_rfl
theorem f24_0 {R : Type} (J : List Item → St → Option R) (kk : V → List Ob → Option R) (x1 : Int × List (Int × Int × Int) × List Bool × Int × Int × Int × Int × List Int × List UInt8) :
  vseg (E7 8) f24cuts 0 J (vend (E7 8) 0 (fb Tryd.f24).1.results.toList false kk) 100000 true f24t3 (f24s0 x1) =
  (bif decide (x1.fst = (0 : Int)) then
    (bif decide ((↑x1.snd.fst.length : Int) = (0 : Int)) then
      (bif x1.snd.snd.snd.snd.snd.snd.snd.snd == ([] : List UInt8) then
        (bif decide (x1.snd.snd.snd.snd.snd.snd.snd.fst.length < (4611686018427387904 : Nat)) then
          kk (V.bool !decide ((0 : Int) ≤ notFour x1.snd.snd.snd.snd.snd.snd.snd.fst (0 : Nat))) ([])
        else none)
      else kk (V.bool false) ([]))
    else kk (V.bool false) ([]))
  else J f24t5 (f24s1 (x1))) := by kernel_rfl
theorem f24_1 {R : Type} (J : List Item → St → Option R) (kk : V → List Ob → Option R) (x2 : Int × List (Int × Int × Int) × List Bool × Int × Int × Int × Int × List Int × List UInt8) :
  vseg (E7 8) f24cuts 0 J (vend (E7 8) 0 (fb Tryd.f24).1.results.toList false kk) 100000 true f24t5 (f24s1 x2) =
  (bif !decide (x2.fst = (1 : Int)) then
    kk (V.bool false) ([])
  else (bif decide ((↑x2.snd.fst.length : Int) < (1 : Int)) then
      kk (V.bool false) ([])
    else (bif decide ((8 : Int) < (↑x2.snd.fst.length : Int)) then
        kk (V.bool false) ([])
      else J f24t8 (f24s2 (x2) (0 : Int) (x2))))) := by kernel_rfl
theorem f24_2 {R : Type} (J : List Item → St → Option R) (kk : V → List Ob → Option R) (x2 : Int × List (Int × Int × Int) × List Bool × Int × Int × Int × Int × List Int × List UInt8) (n3 : Int) (x4 : Int × List (Int × Int × Int) × List Bool × Int × Int × Int × Int × List Int × List UInt8) :
  vseg (E7 8) f24cuts 0 J (vend (E7 8) 0 (fb Tryd.f24).1.results.toList false kk) 100000 true f24t8 (f24s2 x2 n3 x4) =
  (bif decide (n3 < (↑x2.snd.fst.length : Int)) then
    (match idx x2.snd.fst n3 with
      | some y5 => (bif !Pt.right y5 then
        kk (V.bool false) ([])
      else J f24t8 (f24s2 (x2) (IntKind.i64.wrap (n3 + (1 : Int))) (x4)))
      | none => none)
  else (bif decide (x4.snd.fst.length < (4611686018427387904 : Nat)) then
      kk (V.bool (risesP x4.snd.fst)) ([])
    else none)) := by kernel_rfl

noncomputable abbrev f36cuts : Cuts := look [(8, [1, 3])]
noncomputable abbrev f36t8 : List Item := itemsAt (fb Tryd.f36).2 8
def f36s0 (n2 : Int) (x3 : Int × List (Int × Int × Int) × List Bool × Int × Int × Int × Int × List Int × List UInt8) : St := { fr := [(1, V.ref 0 0 0 0), (3, V.int IntKind.i64 n2)], hp := [(0, Ob.var [V.int IntKind.i64 x3.fst, V.sl rPitch x3.snd.fst, V.sl rB x3.snd.snd.fst, V.int IntKind.i64 x3.snd.snd.snd.fst, V.int IntKind.i64 x3.snd.snd.snd.snd.fst, V.int IntKind.i64 x3.snd.snd.snd.snd.snd.fst, V.int IntKind.i64 x3.snd.snd.snd.snd.snd.snd.fst, V.sl rI x3.snd.snd.snd.snd.snd.snd.snd.fst, V.str x3.snd.snd.snd.snd.snd.snd.snd.snd])], nx := 1 }
theorem f36_go {R : Type} (J : List Item → St → Option R) (kk : V → List Ob → Option R) (x : Int × List (Int × Int × Int) × List Bool × Int × Int × Int × Int × List Int × List UInt8) :
  vseg (E7 8) f36cuts 0 J (vend (E7 8) 0 (fb Tryd.f36).1.results.toList false kk) 100000 true [.code (fb Tryd.f36).2] (start ([enc true rEvent x]) ([])) =
  (bif !Vl.right (x.snd.snd.snd.fst, x.snd.snd.snd.snd.fst, x.snd.snd.snd.snd.snd.fst, x.snd.snd.snd.snd.snd.snd.fst) then
    kk (V.bool false) ([])
  else (bif !plain x.snd.snd.snd.snd.snd.snd.snd.snd then
      kk (V.bool false) ([])
    else (bif decide (List.length x.snd.snd.snd.snd.snd.snd.snd.fst < (4611686018427387904 : Nat)) then
        (bif !marked x.snd.snd.snd.snd.snd.snd.snd.fst then
          kk (V.bool false) ([])
        else (bif !decide ((↑(List.length x.snd.snd.fst) : Int) = (↑(List.length x.snd.fst) : Int)) then
            kk (V.bool false) ([])
          else (bif decide (x.fst = (0 : Int)) then
              (bif decide ((↑(List.length x.snd.fst) : Int) = (0 : Int)) then
                (bif decide ((↑(List.length x.snd.snd.snd.snd.snd.snd.snd.snd) : Int) = (0 : Int)) then
                  (bif decide ((↑(List.length x.snd.snd.snd.snd.snd.snd.snd.fst) : Int) = (0 : Int)) then
                    kk (V.bool true) ([])
                  else (match idx x.snd.snd.snd.snd.snd.snd.snd.fst (0 : Int) with
                      | some y1 => kk (V.bool (decide (y1 = (4 : Int)))) ([])
                      | none => none))
                else kk (V.bool false) ([]))
              else kk (V.bool false) ([]))
            else (bif !decide (x.fst = (1 : Int)) then
                kk (V.bool false) ([])
              else (bif decide ((↑(List.length x.snd.fst) : Int) = (0 : Int)) then
                  kk (V.bool false) ([])
                else (bif decide ((8 : Int) < (↑(List.length x.snd.fst) : Int)) then
                    kk (V.bool false) ([])
                  else J f36t8 (f36s0 (0 : Int) (x))))))))
      else none))) := by kernel_rfl
theorem f36_0 {R : Type} (J : List Item → St → Option R) (kk : V → List Ob → Option R) (n2 : Int) (x3 : Int × List (Int × Int × Int) × List Bool × Int × Int × Int × Int × List Int × List UInt8) :
  vseg (E7 8) f36cuts 0 J (vend (E7 8) 0 (fb Tryd.f36).1.results.toList false kk) 100000 true f36t8 (f36s0 n2 x3) =
  (bif decide (n2 < (↑x3.snd.fst.length : Int)) then
    (match idx x3.snd.fst n2 with
      | some y4 => (bif !Pt.right y4 then
        kk (V.bool false) ([])
      else (bif decide ((0 : Int) < n2) then
          (match idx x3.snd.fst n2 with
            | some y5 => (match idx x3.snd.fst (IntKind.i64.wrap (n2 - (1 : Int))) with
              | some y6 => (bif decide (Pt.cmp y5 y6 ≤ (0 : Int)) then
                kk (V.bool false) ([])
              else J f36t8 (f36s0 (IntKind.i64.wrap (n2 + (1 : Int))) (x3)))
              | none => none)
            | none => none)
        else J f36t8 (f36s0 (IntKind.i64.wrap (n2 + (1 : Int))) (x3))))
      | none => none)
  else kk (V.bool true) ([])) := by kernel_rfl

end Vm.S06

open Go Go.Proofs
namespace Vm.S06
theorem f24_loop {R : Type} (kk : V → List Ob → Option R) (x y : Ev) (hb : x.2.1.length < 4611686018427387904) (hy : y.2.1.length < 4611686018427387904) : ∀ (d i : Nat), i + d = x.2.1.length →
    vrun (E7 8) f24cuts 0 100000 (vend (E7 8) 0 (fb Tryd.f24).1.results.toList false kk) (d + 1) f24t8 (f24s2 x i y) = kk (.bool ((x.2.1.drop i).all Pt.right && risesP y.2.1)) [] := by
  intro d
  induction d with
  | zero =>
    intro i hi
    rw [vrun_succ, f24_2, bif_neg (by exact decide_eq_false (by omega)), bif_pos (decide_eq_true hy), List.drop_eq_nil_of_le (by omega)]; rfl
  | succ d ih =>
    intro i hi
    have hlt : i < x.2.1.length := by omega
    rw [vrun_succ, f24_2, bif_pos (by exact decide_eq_true (by omega)), wrap_succ (by omega), ih (i + 1) (by omega), idx_nat, List.getElem?_eq_getElem hlt]
    dsimp only
    rw [List.drop_eq_getElem_cons hlt, List.all_cons]
    cases Pt.right x.2.1[i] <;> rfl
theorem cond_not_kb {R : Type} (kk : V → List Ob → Option R) (c : Bool) (X : Option R) (b : Bool) (h : c = true → X = kk (.bool b) []) : (bif !c then kk (.bool false) [] else X) = kk (.bool (c && b)) [] := by
  cases c with
  | false => rfl
  | true => exact h rfl
theorem f24_run {R : Type} (kk : V → List Ob → Option R) (x : Ev) (hm : Ev.okm x = true) :
    ∃ n, vrun (E7 8) f24cuts 0 100000 (vend (E7 8) 0 (fb Tryd.f24).1.results.toList false kk) n [.code (fb Tryd.f24).2] (start [enc true rEvent x] []) = kk (.bool (Ev.right x)) [] := by
  refine ⟨x.2.1.length + 1 + 1 + 1 + 1, ?_⟩
  rw [vrun_succ, f24_go, Ev.right_eq]
  refine cond_not_kb kk _ _ _ fun h1 => cond_not_kb kk _ _ _ fun h2 => ?_
  have hm' : decide (x.snd.snd.snd.snd.snd.snd.snd.fst.length < 4611686018427387904) = true := hm
  rw [bif_pos hm']
  refine cond_not_kb kk _ _ _ fun h3 => ?_
  rw [show decide ((x.snd.snd.fst.length : Int) = (x.snd.fst.length : Int)) = decide (x.ties.length = x.pitches.length) from decide_eq_decide.2 ⟨fun h => Int.ofNat_inj.1 h, fun h => congrArg Int.ofNat h⟩]
  refine cond_not_kb kk _ _ _ fun h4 => ?_
  rw [vrun_succ, f24_0]
  unfold Ev.shape
  by_cases hk : x.1 = 0
  · rw [bif_pos (decide_eq_true hk), if_pos (show x.kind = 0 from hk)]
    by_cases hp : x.2.1.length = 0
    · rw [bif_pos (by exact decide_eq_true (by omega)), show decide (x.pitches.length = 0) = true from decide_eq_true hp, Bool.true_and]
      by_cases hw : x.2.2.2.2.2.2.2.2 = []
      · rw [show decide (x.word = []) = true from decide_eq_true hw, hw, bif_pos (by rfl), bif_pos hm', notFour_neg, Bool.not_not, Bool.true_and]; rfl
      · rw [show decide (x.word = []) = false from decide_eq_false hw, bif_neg (by simpa using hw)]; rfl
    · rw [bif_neg (by exact decide_eq_false (by omega)), show decide (x.pitches.length = 0) = false from decide_eq_false hp]; rfl
  · rw [bif_neg (decide_eq_false hk), if_neg (show ¬ x.kind = 0 from hk), vrun_succ, f24_1]
    refine cond_not_kb kk _ _ _ fun h5 => ?_
    by_cases p1 : x.2.1.length < 1
    · rw [bif_pos (by exact decide_eq_true (by omega)), show decide (1 ≤ x.pitches.length) = false from decide_eq_false (by simp only [Ev.pitches]; omega)]; rfl
    · rw [bif_neg (by exact decide_eq_false (by omega)), show decide (1 ≤ x.pitches.length) = true from decide_eq_true (by simp only [Ev.pitches]; omega), Bool.true_and]
      by_cases p8 : 8 < x.2.1.length
      · rw [bif_pos (by exact decide_eq_true (by omega)), show decide (x.pitches.length ≤ 8) = false from decide_eq_false (by simp only [Ev.pitches]; omega)]; rfl
      · rw [bif_neg (by exact decide_eq_false (by omega)), show decide (x.pitches.length ≤ 8) = true from decide_eq_true (by simp only [Ev.pitches]; omega), Bool.true_and]
        exact f24_loop kk x x (by omega) (by omega) x.2.1.length 0 (by omega)

theorem f36_loop {R : Type} (kk : V → List Ob → Option R) (x : Ev) (hb : x.2.1.length < 4611686018427387904) : ∀ (d i : Nat), i + d = x.2.1.length →
    vrun (E7 8) f36cuts 0 100000 (vend (E7 8) 0 (fb Tryd.f36).1.results.toList false kk) (d + 1) f36t8 (f36s0 i x) = kk (.bool ((x.2.1.drop i).all Pt.right && risesP (x.2.1.drop (i - 1)))) [] := by
  intro d
  induction d with
  | zero =>
    intro i hi
    rw [vrun_succ, f36_0, bif_neg (by exact decide_eq_false (by omega)), risesP_short (by rw [List.length_drop]; omega), List.drop_eq_nil_of_le (by omega)]; rfl
  | succ d ih =>
    intro i hi
    have hlt : i < x.2.1.length := by omega
    rw [vrun_succ, f36_0, bif_pos (by exact decide_eq_true (by omega)), wrap_succ (by omega), ih (i + 1) (by omega), idx_nat, List.getElem?_eq_getElem hlt]
    dsimp only
    have ea : (x.2.1.drop i).all Pt.right = (Pt.right x.2.1[i] && (x.2.1.drop (i + 1)).all Pt.right) := by rw [List.drop_eq_getElem_cons hlt, List.all_cons]
    rw [ea]
    cases hr : Pt.right x.2.1[i] with
    | false => rfl
    | true =>
      rw [bif_neg (by rfl), Bool.true_and]
      match i, hi, hlt with
      | 0, hi, hlt => rw [bif_neg (by exact decide_eq_false (by omega))]
      | i + 1, hi, hlt =>
        rw [bif_pos (by exact decide_eq_true (by omega)), w64 (n := ((i + 1 : Nat) : Int) - 1) (by omega) (by omega), idx_get _ _ i (by omega), List.getElem?_eq_getElem (by omega : i < x.2.1.length)]
        dsimp only
        rw [show i + 1 - 1 = i from rfl, show i + 1 + 1 - 1 = i + 1 from rfl, risesP_drop x.2.1 i hlt]
        by_cases h : Pt.cmp x.2.1[i + 1] x.2.1[i] > 0
        · rw [bif_neg (by exact decide_eq_false (by omega)), decide_eq_true h, Bool.true_and]
        · rw [bif_pos (by exact decide_eq_true (by omega)), decide_eq_false h, Bool.false_and, Bool.and_false]
theorem f36_run {R : Type} (kk : V → List Ob → Option R) (x : Ev) (hm : Ev.okm x = true) :
    ∃ n, vrun (E7 8) f36cuts 0 100000 (vend (E7 8) 0 (fb Tryd.f36).1.results.toList false kk) n [.code (fb Tryd.f36).2] (start [enc true rEvent x] []) = kk (.bool (Ev.right x)) [] := by
  refine ⟨x.2.1.length + 1 + 1, ?_⟩
  rw [vrun_succ, f36_go, Ev.right_eq]
  refine cond_not_kb kk _ _ _ fun h1 => cond_not_kb kk _ _ _ fun h2 => ?_
  have hm' : decide (x.snd.snd.snd.snd.snd.snd.snd.fst.length < 4611686018427387904) = true := hm
  rw [bif_pos hm']
  refine cond_not_kb kk _ _ _ fun h3 => ?_
  rw [show decide ((x.snd.snd.fst.length : Int) = (x.snd.fst.length : Int)) = decide (x.ties.length = x.pitches.length) from decide_eq_decide.2 ⟨fun h => Int.ofNat_inj.1 h, fun h => congrArg Int.ofNat h⟩]
  refine cond_not_kb kk _ _ _ fun h4 => ?_
  unfold Ev.shape
  by_cases hk : x.1 = 0
  · rw [bif_pos (decide_eq_true hk), if_pos (show x.kind = 0 from hk)]
    by_cases hp : x.2.1.length = 0
    · rw [bif_pos (by exact decide_eq_true (by omega)), show decide (x.pitches.length = 0) = true from decide_eq_true hp, Bool.true_and]
      by_cases hw : x.2.2.2.2.2.2.2.2 = []
      · rw [show decide (x.word = []) = true from decide_eq_true hw, hw, bif_pos (by rfl), Bool.true_and, show (x.marks.all fun m => decide (m = 4)) = firstFour x.2.2.2.2.2.2.2.1 from marked_four h3]
        cases x.2.2.2.2.2.2.2.1 with
        | nil => rfl
        | cons a l => rw [bif_neg (by exact decide_eq_false (by simp only [List.length_cons]; omega))]; rfl
      · rw [show decide (x.word = []) = false from decide_eq_false hw, bif_neg (by exact decide_eq_false (fun e => hw (List.length_eq_zero_iff.1 (by omega))))]; rfl
    · rw [bif_neg (by exact decide_eq_false (by omega)), show decide (x.pitches.length = 0) = false from decide_eq_false hp]; rfl
  · rw [bif_neg (decide_eq_false hk), if_neg (show ¬ x.kind = 0 from hk)]
    refine cond_not_kb kk _ _ _ fun h5 => ?_
    by_cases p1 : x.2.1.length < 1
    · rw [bif_pos (by exact decide_eq_true (by omega)), show decide (1 ≤ x.pitches.length) = false from decide_eq_false (by simp only [Ev.pitches]; omega)]; rfl
    · rw [bif_neg (by exact decide_eq_false (by omega)), show decide (1 ≤ x.pitches.length) = true from decide_eq_true (by simp only [Ev.pitches]; omega), Bool.true_and]
      by_cases p8 : 8 < x.2.1.length
      · rw [bif_pos (by exact decide_eq_true (by omega)), show decide (x.pitches.length ≤ 8) = false from decide_eq_false (by simp only [Ev.pitches]; omega)]; rfl
      · rw [bif_neg (by exact decide_eq_false (by omega)), show decide (x.pitches.length ≤ 8) = true from decide_eq_true (by simp only [Ev.pitches]; omega), Bool.true_and]
        exact f36_loop kk x (by omega) x.2.1.length 0 (by omega)
def f24e : Entry Tryd.prog gls := .one 24 true rEvent (by intro h; cases h <;> rfl) (fun (x : Ev) => (Ev.okm x, .bool (Ev.right x))) fun x h => by
  have _ := h
  obtain ⟨n, hn⟩ := f24_run (fun v os => some (v, os)) x h
  exact contract_run (fn := (fb Tryd.f24).1) (c := (fb Tryd.f24).2) mixed (ready7 8) (glE7 8) Tryd.func24 (by kernel_rfl) rfl rfl (by kernel_rfl) hn

def f36e : Entry Tryd.prog gls := .one 36 true rEvent (by intro h; cases h <;> rfl) (fun (x : Ev) => (Ev.okm x, .bool (Ev.right x))) fun x h => by
  have _ := h
  obtain ⟨n, hn⟩ := f36_run (fun v os => some (v, os)) x h
  exact contract_run (fn := (fb Tryd.f36).1) (c := (fb Tryd.f36).2) mixed (ready7 8) (glE7 8) Tryd.func36 (by kernel_rfl) rfl rfl (by kernel_rfl) hn

noncomputable def es8 : List (Entry Tryd.prog gls) := [f24e, f36e] ++ es7
noncomputable def E8 (n : Nat) : Env := interp fns (look tys) gls mvs (tabOf es8) 100000 n
theorem ready8 (n : Nat) : Ready Tryd.prog (E8 n) := ready_of mixed fnsAll tysOk n
theorem glE8 (n : Nat) : (E8 n).gl = gls := by cases n <;> rfl
end Vm.S06

