/- The laws on events up, lengths and words, as runs of the value machine. -/
import Derived.Test.YtmfbipnhhfpajaaDoorLawD
import Derived.Test.YtmfbipnhhfpajaaDoorVmE
import Derived.KernelRfl
import Derived.Test.YtmfbipnhhfpajaaDoorEnv
import Derived.Lay
import Derived.Test.YtmfbipnhhfpajaaDoorRows
set_option maxRecDepth 100000
open Go Go.Proofs
namespace Vm.S06
noncomputable abbrev f12cuts : Cuts := fun _ => none
theorem f12_go {R : Type} (J : List Item → St → Option R) (kk : V → List Ob → Option R) (x : Int × List (Int × Int × Int) × List Bool × Int × Int × Int × Int × List Int × List UInt8) (v : Int × Int × Int × Int) :
  vseg (E11 8) f12cuts 0 J (vend (E11 8) 0 (fb Tryd.f12).1.results.toList false kk) 100000 true [.code (fb Tryd.f12).2] (start ([enc true rEvent x, enc true rVal v]) ([])) =
  (bif decide ((↑(List.length x.snd.fst) : Int) ≤ (20 : Int)) then
    (bif decide ((↑(List.length x.snd.snd.fst) : Int) ≤ (20 : Int)) then
      (bif decide ((↑(List.length x.snd.snd.snd.snd.snd.snd.snd.fst) : Int) ≤ (20 : Int)) then
        (bif !decide ((↑(List.length x.snd.snd.snd.snd.snd.snd.snd.snd) : Int) ≤ (100 : Int)) then
          kk (V.bool true) ([])
        else (bif Ev.okm x then
            (bif !Ev.right x then
              kk (V.bool true) ([])
            else (bif Ev.okm x then
                (bif !Ev.right x then
                  (bif decide (Int.ofNat (0 : Nat) = (Vl.len (x.snd.snd.snd.fst, x.snd.snd.snd.snd.fst, x.snd.snd.snd.snd.snd.fst, x.snd.snd.snd.snd.snd.snd.fst)).fst.fst) && decide (Int.ofNat (0 : Nat) = (Vl.len (x.snd.snd.snd.fst, x.snd.snd.snd.snd.fst, x.snd.snd.snd.snd.snd.fst, x.snd.snd.snd.snd.snd.snd.fst)).fst.snd) then
                    (bif decide ((60 : Int) = (Vl.len (x.snd.snd.snd.fst, x.snd.snd.snd.snd.fst, x.snd.snd.snd.snd.snd.fst, x.snd.snd.snd.snd.snd.snd.fst)).snd) then
                      (bif Ev.okm (x.fst, x.snd.fst, x.snd.snd.fst, v.fst, v.snd.fst, v.snd.snd.fst, v.snd.snd.snd, x.snd.snd.snd.snd.snd.snd.snd) then
                        kk (V.bool (Ev.right (x.fst, x.snd.fst, x.snd.snd.fst, v.fst, v.snd.fst, v.snd.snd.fst, v.snd.snd.snd, x.snd.snd.snd.snd.snd.snd.snd) == Vl.right v)) ([])
                      else none)
                    else kk (V.bool false) ([]))
                  else kk (V.bool false) ([]))
                else (bif decide ((Vl.len (x.snd.snd.snd.fst, x.snd.snd.snd.snd.fst, x.snd.snd.snd.snd.snd.fst, x.snd.snd.snd.snd.snd.snd.fst)).fst.fst = (Vl.len (x.snd.snd.snd.fst, x.snd.snd.snd.snd.fst, x.snd.snd.snd.snd.snd.fst, x.snd.snd.snd.snd.snd.snd.fst)).fst.fst) && decide ((Vl.len (x.snd.snd.snd.fst, x.snd.snd.snd.snd.fst, x.snd.snd.snd.snd.snd.fst, x.snd.snd.snd.snd.snd.snd.fst)).fst.snd = (Vl.len (x.snd.snd.snd.fst, x.snd.snd.snd.snd.fst, x.snd.snd.snd.snd.snd.fst, x.snd.snd.snd.snd.snd.snd.fst)).fst.snd) then
                    (bif decide ((Vl.len (x.snd.snd.snd.fst, x.snd.snd.snd.snd.fst, x.snd.snd.snd.snd.snd.fst, x.snd.snd.snd.snd.snd.snd.fst)).snd = (Vl.len (x.snd.snd.snd.fst, x.snd.snd.snd.snd.fst, x.snd.snd.snd.snd.snd.fst, x.snd.snd.snd.snd.snd.snd.fst)).snd) then
                      (bif Ev.okm (x.fst, x.snd.fst, x.snd.snd.fst, v.fst, v.snd.fst, v.snd.snd.fst, v.snd.snd.snd, x.snd.snd.snd.snd.snd.snd.snd) then
                        kk (V.bool (Ev.right (x.fst, x.snd.fst, x.snd.snd.fst, v.fst, v.snd.fst, v.snd.snd.fst, v.snd.snd.snd, x.snd.snd.snd.snd.snd.snd.snd) == Vl.right v)) ([])
                      else none)
                    else kk (V.bool false) ([]))
                  else kk (V.bool false) ([])))
              else none))
          else none))
      else kk (V.bool true) ([]))
    else kk (V.bool true) ([]))
  else kk (V.bool true) ([])) := by kernel_rfl

noncomputable abbrev f13cuts : Cuts := fun _ => none
theorem f13_go {R : Type} (J : List Item → St → Option R) (kk : V → List Ob → Option R) (s : List UInt8) :
  vseg (E11 8) f13cuts 0 J (vend (E11 8) 0 (fb Tryd.f13).1.results.toList false kk) 100000 true [.code (fb Tryd.f13).2] (start ([V.str s]) ([])) =
  (bif decide ((100 : Int) < (↑s.length : Int)) then
    kk (V.bool true) ([])
  else (bif Ev.right ((1 : Int), (List.replicate (1 : Nat) (Int.ofNat (0 : Nat), Int.ofNat (0 : Nat), Int.ofNat (0 : Nat))).set (0 : Nat) ((0 : Int), Int.ofNat (0 : Nat), (4 : Int)), (List.replicate (1 : Nat) false).set (0 : Nat) false, (2 : Int), Int.ofNat (0 : Nat), Int.ofNat (0 : Nat), Int.ofNat (0 : Nat), [], s) == plain s then
      kk (V.bool (Ev.right (Int.ofNat (0 : Nat), [], [], (2 : Int), Int.ofNat (0 : Nat), Int.ofNat (0 : Nat), Int.ofNat (0 : Nat), [], s) == (s == ([] : List UInt8)))) ([])
    else kk (V.bool false) ([]))) := by kernel_rfl

noncomputable abbrev f4cuts : Cuts := fun _ => none
theorem f4_go {R : Type} (J : List Item → St → Option R) (kk : V → List Ob → Option R) (x : Int × List (Int × Int × Int) × List Bool × Int × Int × Int × Int × List Int × List UInt8) (b : Int × Int) :
  vseg (E11 8) f4cuts 0 J (vend (E11 8) 0 (fb Tryd.f4).1.results.toList false kk) 100000 true [.code (fb Tryd.f4).2] (start ([enc true rEvent x, enc true rIv b]) ([])) =
  (bif decide ((↑(List.length x.snd.fst) : Int) ≤ (20 : Int)) then
    (bif decide ((↑(List.length x.snd.snd.fst) : Int) ≤ (20 : Int)) then
      (bif decide ((↑(List.length x.snd.snd.snd.snd.snd.snd.snd.fst) : Int) ≤ (20 : Int)) then
        (bif !decide ((↑(List.length x.snd.snd.snd.snd.snd.snd.snd.snd) : Int) ≤ (100 : Int)) then
          kk (V.bool true) ([])
        else (bif Ev.okUp x then
            (bif Ev.okUp x then
              (bif (Ev.up x b).fst.small then
                (bif (Ev.up x b).fst.same (Ev.up x b).fst then
                  kk (V.bool (decide ((Ev.up x b).snd = (Ev.up x b).snd))) ([])
                else kk (V.bool false) ([]))
              else none)
            else none)
          else none))
      else kk (V.bool true) ([]))
    else kk (V.bool true) ([]))
  else kk (V.bool true) ([])) := by kernel_rfl

noncomputable abbrev f6cuts : Cuts := fun _ => none
theorem f6_go {R : Type} (J : List Item → St → Option R) (kk : V → List Ob → Option R) (x : Int × List (Int × Int × Int) × List Bool × Int × Int × Int × Int × List Int × List UInt8) (b : Int × Int) :
  vseg (E11 8) f6cuts 0 J (vend (E11 8) 0 (fb Tryd.f6).1.results.toList false kk) 100000 true [.code (fb Tryd.f6).2] (start ([enc true rEvent x, enc true rIv b]) ([])) =
  (bif decide ((↑(List.length x.snd.fst) : Int) ≤ (20 : Int)) then
    (bif decide ((↑(List.length x.snd.snd.fst) : Int) ≤ (20 : Int)) then
      (bif decide ((↑(List.length x.snd.snd.snd.snd.snd.snd.snd.fst) : Int) ≤ (20 : Int)) then
        (bif !decide ((↑(List.length x.snd.snd.snd.snd.snd.snd.snd.snd) : Int) ≤ (100 : Int)) then
          kk (V.bool true) ([])
        else (bif Ev.okUp x then
            (bif !decide ((Ev.up x b).snd = (0 : Int)) then
              (bif (Ev.up x b).fst.small then
                kk (V.bool ((Ev.up x b).fst.same (Int.ofNat (0 : Nat), [], [], Int.ofNat (0 : Nat), Int.ofNat (0 : Nat), Int.ofNat (0 : Nat), Int.ofNat (0 : Nat), [], []))) ([])
              else none)
            else (bif Ev.okUp (Ev.up x b).fst then
                (bif Ev.small ((Ev.up x b).fst.fst, x.snd.fst, (Ev.up x b).fst.snd.snd) then
                  (bif Ev.same ((Ev.up x b).fst.fst, x.snd.fst, (Ev.up x b).fst.snd.snd) x then
                    (bif decide (((Ev.up x b).fst.up (IntKind.i64.wrap ((0 : Int) - b.fst), IntKind.i64.wrap ((0 : Int) - b.snd))).snd = (0 : Int)) then
                      (bif ((Ev.up x b).fst.up (IntKind.i64.wrap ((0 : Int) - b.fst), IntKind.i64.wrap ((0 : Int) - b.snd))).fst.small then
                        kk (V.bool (((Ev.up x b).fst.up (IntKind.i64.wrap ((0 : Int) - b.fst), IntKind.i64.wrap ((0 : Int) - b.snd))).fst.same x)) ([])
                      else none)
                    else kk (V.bool false) ([]))
                  else kk (V.bool false) ([]))
                else none)
              else none))
          else none))
      else kk (V.bool true) ([]))
    else kk (V.bool true) ([]))
  else kk (V.bool true) ([])) := by kernel_rfl

noncomputable abbrev f7cuts : Cuts := fun _ => none
theorem f7_go {R : Type} (J : List Item → St → Option R) (kk : V → List Ob → Option R) (x : Int × List (Int × Int × Int) × List Bool × Int × Int × Int × Int × List Int × List UInt8) (b : Int × Int) (n : Int) :
  vseg (E11 8) f7cuts 0 J (vend (E11 8) 0 (fb Tryd.f7).1.results.toList false kk) 100000 true [.code (fb Tryd.f7).2] (start ([enc true rEvent x, enc true rIv b, V.int IntKind.u8 n]) ([])) =
  (bif decide ((↑(List.length x.snd.fst) : Int) ≤ (20 : Int)) then
    (bif decide ((↑(List.length x.snd.snd.fst) : Int) ≤ (20 : Int)) then
      (bif decide ((↑(List.length x.snd.snd.snd.snd.snd.snd.snd.fst) : Int) ≤ (20 : Int)) then
        (bif !decide ((↑(List.length x.snd.snd.snd.snd.snd.snd.snd.snd) : Int) ≤ (100 : Int)) then
          kk (V.bool true) ([])
        else (bif decide ((↑(List.length x.snd.fst) : Int) = (0 : Int)) then
            kk (V.bool true) ([])
          else (bif decide ((↑(List.length x.snd.fst) : Int) = (0 : Int)) then
              none
            else (match idx x.snd.fst ((IntKind.i64.wrap n).tmod (↑(List.length x.snd.fst) : Int)) with
                | some y1 => (bif Ev.okUp x then
                  (bif !decide ((Ev.up x b).snd = (0 : Int)) then
                    kk (V.bool (decide ((↑(List.length (Ev.up x b).fst.snd.fst) : Int) = (0 : Int)))) ([])
                  else (bif decide (Pt.upE y1 b = (0 : Int)) then
                      (bif decide ((↑(List.length (Ev.up x b).fst.snd.fst) : Int) = (↑(List.length x.snd.fst) : Int)) then
                        (match idx (Ev.up x b).fst.snd.fst ((IntKind.i64.wrap n).tmod (↑(List.length x.snd.fst) : Int)) with
                          | some y2 => kk (V.bool (decide (y2.fst = (Pt.upV y1 b).fst) && (decide (y2.snd.fst = (Pt.upV y1 b).snd.fst) && decide (y2.snd.snd = (Pt.upV y1 b).snd.snd)))) ([])
                          | none => none)
                      else kk (V.bool false) ([]))
                    else kk (V.bool false) ([])))
                else none)
                | none => none))))
      else kk (V.bool true) ([]))
    else kk (V.bool true) ([]))
  else kk (V.bool true) ([])) := by kernel_rfl

end Vm.S06

open Go Go.Proofs
namespace Vm.S06
theorem few_kb {R : Type} (kk : V → List Ob → Option R) (a b c : Nat) (d : Bool) (X : Option R) (h : a ≤ 20 → b ≤ 20 → c ≤ 20 → d = false → X = kk (.bool true) []) :
    (bif decide ((a : Int) ≤ 20) then (bif decide ((b : Int) ≤ 20) then (bif decide ((c : Int) ≤ 20) then (bif d then kk (.bool true) [] else X) else kk (.bool true) []) else kk (.bool true) []) else kk (.bool true) []) = kk (.bool true) [] := by
  by_cases h1 : (a : Int) ≤ 20
  · rw [bif_pos (decide_eq_true h1)]
    by_cases h2 : (b : Int) ≤ 20
    · rw [bif_pos (decide_eq_true h2)]
      by_cases h3 : (c : Int) ≤ 20
      · rw [bif_pos (decide_eq_true h3)]
        cases d with
        | true => rfl
        | false => exact h (by omega) (by omega) (by omega) rfl
      · rw [bif_neg (decide_eq_false h3)]
    · rw [bif_neg (decide_eq_false h2)]
  · rw [bif_neg (decide_eq_false h1)]
theorem okm_of {x : Ev} (h : x.2.2.2.2.2.2.2.1.length ≤ 1000) : Ev.okm x = true := by simp only [Ev.okm, decide_eq_true_eq]; show x.2.2.2.2.2.2.2.1.length < _; omega
theorem okUp_of {x : Ev} (h : x.2.2.2.2.2.2.2.1.length ≤ 1000) : Ev.okUp x = true := by
  simp only [Ev.okUp, Bool.and_eq_true]; exact ⟨okm_of h, decide_eq_true (by simp [bytesMost]; omega)⟩

theorem f12_run {R : Type} (kk : V → List Ob → Option R) (x : Ev) (v : Vl) :
    vrun (E11 8) f12cuts 0 100000 (vend (E11 8) 0 (fb Tryd.f12).1.results.toList false kk) 1 [.code (fb Tryd.f12).2] (start [enc true rEvent x, enc true rVal v] []) = kk (.bool true) [] := by
  rw [vrun_succ, f12_go]
  refine few_kb kk _ _ _ _ _ fun h1 h2 h3 h4 => ?_
  have ho : Ev.okm x = true := okm_of (by omega)
  have ho' : Ev.okm (x.fst, x.snd.fst, x.snd.snd.fst, v.fst, v.snd.fst, v.snd.snd.fst, v.snd.snd.snd, x.snd.snd.snd.snd.snd.snd.snd) = true := okm_of (by show x.2.2.2.2.2.2.2.1.length ≤ 1000; omega)
  rw [bif_pos ho]
  cases hr : Ev.right x with
  | false => rfl
  | true =>
    rw [bif_neg (by rfl), bif_pos ho, bif_neg (by rfl), decide_eq_true (by rfl), decide_eq_true (by rfl), decide_eq_true (by rfl), bif_pos (by rfl), bif_pos (by rfl), bif_pos ho']
    refine congrArg (fun b => kk (V.bool b) []) ?_
    rw [Ev.right_eq] at hr
    simp only [Bool.and_eq_true] at hr
    obtain ⟨_, a2, a3, a4, a5⟩ := hr
    have e : Ev.right (x.fst, x.snd.fst, x.snd.snd.fst, v.fst, v.snd.fst, v.snd.snd.fst, v.snd.snd.snd, x.snd.snd.snd.snd.snd.snd.snd) = Vl.right v := by
      rw [Ev.right_eq]
      have b2 : plain (Ev.word (x.fst, x.snd.fst, x.snd.snd.fst, v.fst, v.snd.fst, v.snd.snd.fst, v.snd.snd.snd, x.snd.snd.snd.snd.snd.snd.snd)) = true := a2
      have b3 : marked (Ev.marks (x.fst, x.snd.fst, x.snd.snd.fst, v.fst, v.snd.fst, v.snd.snd.fst, v.snd.snd.snd, x.snd.snd.snd.snd.snd.snd.snd)) = true := a3
      have b4 : decide ((Ev.ties (x.fst, x.snd.fst, x.snd.snd.fst, v.fst, v.snd.fst, v.snd.snd.fst, v.snd.snd.snd, x.snd.snd.snd.snd.snd.snd.snd)).length = (Ev.pitches (x.fst, x.snd.fst, x.snd.snd.fst, v.fst, v.snd.fst, v.snd.snd.fst, v.snd.snd.snd, x.snd.snd.snd.snd.snd.snd.snd)).length) = true := a4
      have b5 : Ev.shape (x.fst, x.snd.fst, x.snd.snd.fst, v.fst, v.snd.fst, v.snd.snd.fst, v.snd.snd.snd, x.snd.snd.snd.snd.snd.snd.snd) = true := a5
      rw [b2, b3, b4, b5, Bool.and_true, Bool.and_true, Bool.and_true, Bool.and_true]; rfl
    rw [e]; exact beq_self_eq_true _

theorem f13_run {R : Type} (kk : V → List Ob → Option R) (s : List UInt8) :
    vrun (E11 8) f13cuts 0 100000 (vend (E11 8) 0 (fb Tryd.f13).1.results.toList false kk) 1 [.code (fb Tryd.f13).2] (start [.str s] []) = kk (.bool true) [] := by
  rw [vrun_succ, f13_go]
  have e1 : Ev.right ((1 : Int), (List.replicate (1 : Nat) (Int.ofNat (0 : Nat), Int.ofNat (0 : Nat), Int.ofNat (0 : Nat))).set (0 : Nat) ((0 : Int), Int.ofNat (0 : Nat), (4 : Int)), (List.replicate (1 : Nat) false).set (0 : Nat) false, (2 : Int), Int.ofNat (0 : Nat), Int.ofNat (0 : Nat), Int.ofNat (0 : Nat), [], s) = plain s := by
    show (true && (plain s && (true && (true && true)))) = plain s
    simp
  have e2 : Ev.right (Int.ofNat (0 : Nat), [], [], (2 : Int), Int.ofNat (0 : Nat), Int.ofNat (0 : Nat), Int.ofNat (0 : Nat), [], s) = (s == ([] : List UInt8)) := by
    show (true && (plain s && (true && (true && (true && (decide (s = []) && true)))))) = (s == ([] : List UInt8))
    cases s with
    | nil => rw [plain_nil]; rfl
    | cons a s => simp
  rw [e1, e2, beq_self_eq_true, beq_self_eq_true]
  cases decide ((100 : Int) < (s.length : Int)) <;> rfl

theorem f4_run {R : Type} (kk : V → List Ob → Option R) (x : Ev) (b : Int × Int) :
    vrun (E11 8) f4cuts 0 100000 (vend (E11 8) 0 (fb Tryd.f4).1.results.toList false kk) 1 [.code (fb Tryd.f4).2] (start [enc true rEvent x, enc true rIv b] []) = kk (.bool true) [] := by
  rw [vrun_succ, f4_go]
  refine few_kb kk _ _ _ _ _ fun h1 h2 h3 h4 => ?_
  rw [bif_pos (okUp_of (by omega)), bif_pos (okUp_of (by omega)), bif_pos (Ev.up_small b (by omega) (by omega) (by omega)).1, (Ev.same_iff _ _).2 rfl, cond_true, decide_eq_true (by rfl)]

theorem f6_run {R : Type} (kk : V → List Ob → Option R) (x : Ev) (b : Int × Int) :
    vrun (E11 8) f6cuts 0 100000 (vend (E11 8) 0 (fb Tryd.f6).1.results.toList false kk) 1 [.code (fb Tryd.f6).2] (start [enc true rEvent x, enc true rIv b] []) = kk (.bool true) [] := by
  rw [vrun_succ, f6_go]
  refine few_kb kk _ _ _ _ _ fun h1 h2 h3 h4 => ?_
  rw [bif_pos (okUp_of (by omega))]
  have hs := Ev.up_small (x := x) b (by omega) (by omega) (by omega)
  rcases Ev.up_cases x b with ⟨hr, ps, hu, hw, e⟩ | ⟨e1, e2⟩
  · have hb : x.2.1 ≠ [] → ((IntKind.i64.wrap ((0 : Int) - b.fst), IntKind.i64.wrap ((0 : Int) - b.snd)) : Int × Int) = (-b.1, -b.2) := fun h0 => by
      match hx : x.2.1, h0 with
      | p :: l, _ =>
        obtain ⟨q, hq, _⟩ := (upAll_get hu).2 0 p (by rw [hx]; rfl)
        have := Pt.up_bounds hq
        rw [w64 (n := 0 - b.1) (by omega) (by omega), w64 (n := 0 - b.2) (by omega) (by omega), Int.zero_sub, Int.zero_sub]
    have hback := Ev.up_back hr hu hw (IntKind.i64.wrap ((0 : Int) - b.fst), IntKind.i64.wrap ((0 : Int) - b.snd)) hb
    rw [e] at hs ⊢
    dsimp only at hs ⊢
    have ex : ((x.withP ps).fst, x.snd.fst, (x.withP ps).snd.snd) = x := rfl
    rw [bif_neg (by rfl), bif_pos (okUp_of hs.2), ex, bif_pos (Ev.small_of (x := x) (by omega) (by omega) (by omega)), (Ev.same_iff _ _).2 rfl, cond_true, hback]
    dsimp only
    rw [bif_pos (by rfl), bif_pos (Ev.small_of (x := x) (by omega) (by omega) (by omega)), (Ev.same_iff _ _).2 rfl]
  · rw [bif_pos (by simp [e2]), bif_pos hs.1, e1]; rfl

theorem f7_run {R : Type} (kk : V → List Ob → Option R) (x : Ev) (b : Int × Int) (n : Int) (hn : 0 ≤ n ∧ n ≤ 255) :
    vrun (E11 8) f7cuts 0 100000 (vend (E11 8) 0 (fb Tryd.f7).1.results.toList false kk) 1 [.code (fb Tryd.f7).2] (start [enc true rEvent x, enc true rIv b, .int .u8 n] []) = kk (.bool true) [] := by
  rw [vrun_succ, f7_go]
  refine few_kb kk _ _ _ _ _ fun h1 h2 h3 h4 => ?_
  by_cases h0 : (x.2.1.length : Int) = 0
  · rw [bif_pos (decide_eq_true h0)]
  · rw [bif_neg (decide_eq_false h0), bif_neg (decide_eq_false h0), w64 (n := n) (by omega) (by omega), Int.tmod_eq_emod_of_nonneg hn.1]
    have hk : 0 ≤ n % (x.2.1.length : Int) ∧ n % (x.2.1.length : Int) < (x.2.1.length : Int) := ⟨Int.emod_nonneg _ h0, Int.emod_lt_of_pos _ (by omega)⟩
    obtain ⟨k, hke⟩ := Int.eq_ofNat_of_zero_le hk.1
    rw [hke] at hk ⊢
    have hkl : k < x.2.1.length := by omega
    rw [idx_nat, List.getElem?_eq_getElem hkl]
    dsimp only
    rw [bif_pos (okUp_of (by omega))]
    rcases Ev.up_cases x b with ⟨hr, ps, hu, hw, e⟩ | ⟨e1, e2⟩
    · rw [e]
      dsimp only
      obtain ⟨hl, hg⟩ := upAll_get hu
      obtain ⟨q, hq, hpq⟩ := hg k x.2.1[k] (List.getElem?_eq_getElem hkl)
      rw [bif_neg (by rfl), show Pt.upE x.2.1[k] b = 0 from by simp [Pt.upE, hq], bif_pos (by rfl), show (x.withP ps).snd.fst = ps from rfl, bif_pos (by exact decide_eq_true (by omega)), idx_nat, hpq]
      dsimp only
      rw [show Pt.upV x.2.1[k] b = q from by simp [Pt.upV, hq], decide_eq_true (by rfl), decide_eq_true (by rfl), decide_eq_true (by rfl)]; rfl
    · rw [bif_pos (by simp [e2]), e1]; rfl
end Vm.S06

namespace Go.Proofs.YtmfbipnhhfpajaaDoor
open Go.ChangeShapes Go.WideShapes Go.ChangeAt Go.WideMaps Go.WideElems Go.RowKit Vm
theorem own : ownKnob Tryd.prog.godebug = none := by kernel_rfl
theorem laidOut : laidOutB Tryd.prog = true := by kernel_rfl
theorem g_dotted : Tryd.prog.globalNamed "partita/value.dotted" = some 0 := by kernel_rfl
theorem g_half : Tryd.prog.globalNamed "partita/pitch.halfTones" = some 1 := by kernel_rfl
theorem t_dotted : (Tryd.prog.globals[0]?).map (·.type) = some 78 := by kernel_rfl
theorem t_half : (Tryd.prog.globals[1]?).map (·.type) = some 92 := by kernel_rfl
abbrev theLaid : List (String × DataW Unit) := [("unicode/utf8.acceptRanges", Rows.laid_unicode_utf8_acceptRanges), ("partita/pitch.halfTones", Rows.laid_partita_pitch_halfTones), ("partita/value.dotted", Rows.laid_partita_value_dotted), ("unicode/utf8.first", Rows.laid_unicode_utf8_first)]

theorem g_first : Tryd.prog.globalNamed "unicode/utf8.first" = some 2 := by kernel_rfl
theorem g_accept : Tryd.prog.globalNamed "unicode/utf8.acceptRanges" = some 3 := by kernel_rfl
theorem t_first : (Tryd.prog.globals[2]?).map (·.type) = some 122 := by kernel_rfl
theorem t_accept : (Tryd.prog.globals[3]?).map (·.type) = some 125 := by kernel_rfl
theorem globs {W : World} (h : laidMetH Tryd.prog theLaid W) : ∀ g r xs, S06.gls g = some ⟨r, xs⟩ → allOld W g ∧ ∀ (i : Nat) x, xs[i]? = some x → Ks.Rep W (allOld W) r x g (i * r.len) := by
  rw [MakeChecks.laidMetH_plain _ _ _ (by kernel_rfl)] at h
  obtain ⟨ps, ⟨g0, t0, cs0, f0, p0, q0, hg0, ht0, hv0, hd0, ⟨g1, t1, cs1, f1, p1, q1, hg1, ht1, hv1, hd1, ⟨g2, t2, cs2, f2, p2, q2, hg2, ht2, hv2, hd2, ⟨g3, t3, cs3, f3, p3, q3, hg3, ht3, hv3, hd3, _, _⟩, _⟩, _⟩, _⟩, _, _⟩ := h
  intro g r xs hg
  have h0 := glob_of (name := "partita/value.dotted") g_dotted t_dotted (.cons (.int .i64) (.cons (.int .i64) .nil)) glDotted (by kernel_rfl) (by kernel_rfl) (by decide) (by rfl) hg2 ht2 hv2 hd2
  have h1 := glob_of (name := "partita/pitch.halfTones") g_half t_half (.cons (.int .i64) .nil) glHalf (by kernel_rfl) (by kernel_rfl) (by decide) (by rfl) hg1 ht1 hv1 hd1
  have h2 := glob_of (name := "unicode/utf8.first") g_first t_first (.cons (.int .u8) .nil) utf8First (by kernel_rfl) (by kernel_rfl) (by decide) (by rfl) hg3 ht3 hv3 hd3
  have h3 := glob_of (name := "unicode/utf8.acceptRanges") g_accept t_accept (.cons (.int .u8) (.cons (.int .u8) .nil)) utf8Accept (by kernel_rfl) (by kernel_rfl) (by decide) (by rfl) hg0 ht0 hv0 hd0
  simp only [S06.gls, Vm.look] at hg
  split at hg
  · rename_i e; subst e; cases hg; exact h0
  · split at hg
    · rename_i e; subst e; cases hg; exact h1
    · split at hg
      · rename_i e; subst e; cases hg; exact h2
      · split at hg
        · rename_i e; subst e; cases hg; exact h3
        · cases hg

noncomputable abbrev W0 (os : Os) : World := World.laidAll Tryd.prog os theLaid
theorem laid_met (os : Os) (args : Array Value) : laidMetH Tryd.prog theLaid ((W0 os).forCall (fun _ _ => 0) ⟨#[], args, []⟩).memory := by
  rw [MakeChecks.laidMetH_plain _ _ _ (by kernel_rfl)]
  exact laidMet_laidAll _ (by kernel_rfl) (by kernel_rfl)
theorem shaped (os : Os) : (W0 os).Shaped Tryd.prog := World.shaped_of_ZipB (by kernel_rfl) (by kernel_rfl)
def wEv : Value := .agg #[.int .i64 0, .slice none 0 0, .slice none 0 0, .int .i64 0, .int .i64 0, .int .i64 0, .int .i64 0, .slice none 0 0, .string ⟨#[]⟩]

abbrev wVal : Value := .agg #[.int .i64 0, .int .i64 0, .int .i64 0, .int .i64 0]
abbrev wIv : Value := .agg #[.int .i64 0, .int .i64 0]
abbrev rU8 : Ks := .cons (.int .u8) .nil
theorem wf_u8 {n : Int} (h : (Lit.int .u8 n).wf = true) : (0 : Int) ≤ n ∧ n ≤ (255 : Int) := by
  simp [Lit.wf, IntKind.min, IntKind.max, IntKind.signed, IntKind.bits] at h; omega
end Go.Proofs.YtmfbipnhhfpajaaDoor

