/-
  The contract of Valid. No condition but the slices' shape.
-/
import Derived.Test.YtamajedopofcoaaVal0
set_option linter.unusedVariables false
set_option linter.unusedSimpArgs false
namespace Go.Proofs.Ytamajedopofcoaa
open Go.RowKit
/-- pages -/
structure PG where
  R : List Int
  W : List Int
  Ac : Int
  Pe : Int
  Ch : List (Int × Int)
def vP (R W : List Int) (Ac Pe : Int) (ch : List (Int × Int)) : Bool :=
  listB R && listB W && decide (W.length = R.length) && (decide (Ac = 0) || decide (Ac = 1)) && decide (-1 ≤ Pe) && decide (Pe ≤ 1) && decide (ch.length ≤ 100) && allC R.length ch
set_option maxRecDepth 100000 in
set_option maxHeartbeats 16000000 in
theorem valid11 (A : Option Addr) (n c : Nat) (A2 : Option Addr) (n2 c2 : Nat) (Ac Pe : Int) (A3 : Option Addr) (m c3 : Nat) (R W : List Int) (ch : List (Int × Int)) (w : World) (hl : R.length = n) (hb : Ik .i64 w A R) (hc : n ≤ c) (hl2 : W.length = n2) (hb2 : Ik .i64 w A2 W) (hc2 : n2 ≤ c2) (hl3 : ch.length = m) (hb3 : Ik .i64 w A3 (flat ch)) (hc3 : m ≤ c3) (hs : n ≤ 5000) (hs2 : n2 ≤ 5000) (hs3 : m ≤ 5000) : Calls Try.prog 11 #[.agg #[.slice A n c, .slice A2 n2 c2, .int .i64 Ac, .int .i64 Pe, .slice A3 m c3]] w fun r w' => r = .returned (.bool (vP R W Ac Pe ch)) ∧ Below w.heap.size w w' := by
  have K1 := fun w h => list29 A n c R w hl h hc
  have K2 := fun w h => list29 A2 n2 c2 W w hl2 h hc2
  have HB := Lib.hid hb
  have HB2 := Lib.hid hb2
  have HB3 := Lib.hid hb3
  have HL3 := Lib.hid hl3
  cases g0 : listB R
  · rw [show vP R W Ac Pe ch = false from by unfold vP; rw [g0]; rfl]
    rw [g0] at K1
    replace K1 := Lib.hid K1
    replace K2 := Lib.hid K2
    clear hl hl2 hl3 hb hb2 hb3 g0
    go_enter Try.func11, Try.ntmps11
    go_wp2_with fail
    refine (K1.out _ (HB.out.below (by go_grown))).mono ?_
    rintro r w1 ⟨rfl, rfl⟩
    go_wp2
    go_ret; exact ⟨rfl, by go_grown⟩
  cases g1 : listB W
  · rw [show vP R W Ac Pe ch = false from by unfold vP; rw [g1]; simp]
    rw [g0] at K1
    rw [g1] at K2
    replace K1 := Lib.hid K1
    replace K2 := Lib.hid K2
    clear hl hl2 hl3 hb hb2 hb3 g0 g1
    go_enter Try.func11, Try.ntmps11
    go_wp2_with fail
    refine (K1.out _ (HB.out.below (by go_grown))).mono ?_
    rintro r w1 ⟨rfl, rfl⟩
    go_wp2_with fail
    refine (K2.out _ (HB2.out.below (by go_grown))).mono ?_
    rintro r w1 ⟨rfl, rfl⟩
    go_wp2
    go_ret; exact ⟨rfl, by go_grown⟩
  by_cases g2 : n2 = n
  rotate_left 1
  · rw [show vP R W Ac Pe ch = false from by unfold vP; rw [hl2, hl, decide_eq_false g2]; simp]
    have e2 : ((n2 : Int) == (n : Int)) = false := by simp; omega
    have d2 : decide ((n2 : Int) = (n : Int)) = false := by simp; omega
    rw [g0] at K1
    rw [g1] at K2
    replace K1 := Lib.hid K1
    replace K2 := Lib.hid K2
    clear hl hl2 hl3 hb hb2 hb3 g0 g1 g2
    go_enter Try.func11, Try.ntmps11
    go_wp2_with fail
    refine (K1.out _ (HB.out.below (by go_grown))).mono ?_
    rintro r w1 ⟨rfl, rfl⟩
    go_wp2_with fail
    refine (K2.out _ (HB2.out.below (by go_grown))).mono ?_
    rintro r w1 ⟨rfl, rfl⟩
    go_wp2
    go_ret
    exact ⟨rfl, by go_grown⟩
  by_cases g3 : Ac = 0 ∨ Ac = 1
  rotate_left 1
  · rw [show vP R W Ac Pe ch = false from by unfold vP; rw [decide_eq_false (fun h => g3 (.inl h)), decide_eq_false (fun h => g3 (.inr h))]; simp]
    have e2 : ((n2 : Int) == (n : Int)) = true := by simp; omega
    have d2 : decide ((n2 : Int) = (n : Int)) = true := by simp; omega
    have a0 : decide (Ac = 0) = false := by simp; omega
    have b0 : (Ac == 0) = false := by simp; omega
    have a1 : decide (Ac = 1) = false := by simp; omega
    have b1 : (Ac == 1) = false := by simp; omega
    rw [g0] at K1
    rw [g1] at K2
    replace K1 := Lib.hid K1
    replace K2 := Lib.hid K2
    clear hl hl2 hl3 hb hb2 hb3 g0 g1 g2 g3
    go_enter Try.func11, Try.ntmps11
    go_wp2_with fail
    refine (K1.out _ (HB.out.below (by go_grown))).mono ?_
    rintro r w1 ⟨rfl, rfl⟩
    go_wp2_with fail
    refine (K2.out _ (HB2.out.below (by go_grown))).mono ?_
    rintro r w1 ⟨rfl, rfl⟩
    go_wp2
    go_ret; exact ⟨rfl, by go_grown⟩
  by_cases g4 : -1 ≤ Pe
  rotate_left 1
  · rcases g3 with g3 | g3
    · rw [show vP R W Ac Pe ch = false from by unfold vP; rw [decide_eq_false g4]; simp]
      have e2 : ((n2 : Int) == (n : Int)) = true := by simp; omega
      have d2 : decide ((n2 : Int) = (n : Int)) = true := by simp; omega
      have a0 : decide (Ac = 0) = true := by simp; omega
      have b0 : (Ac == 0) = true := by simp; omega
      have d4 : decide (-1 ≤ Pe) = false := by simp; omega
      rw [g0] at K1
      rw [g1] at K2
      replace K1 := Lib.hid K1
      replace K2 := Lib.hid K2
      clear hl hl2 hl3 hb hb2 hb3 g0 g1 g2 g3 g4
      go_enter Try.func11, Try.ntmps11
      go_wp2_with fail
      refine (K1.out _ (HB.out.below (by go_grown))).mono ?_
      rintro r w1 ⟨rfl, rfl⟩
      go_wp2_with fail
      refine (K2.out _ (HB2.out.below (by go_grown))).mono ?_
      rintro r w1 ⟨rfl, rfl⟩
      go_wp2
      go_ret
      exact ⟨rfl, by go_grown⟩
    · rw [show vP R W Ac Pe ch = false from by unfold vP; rw [decide_eq_false g4]; simp]
      have e2 : ((n2 : Int) == (n : Int)) = true := by simp; omega
      have d2 : decide ((n2 : Int) = (n : Int)) = true := by simp; omega
      have a0 : decide (Ac = 0) = false := by simp; omega
      have b0 : (Ac == 0) = false := by simp; omega
      have a1 : decide (Ac = 1) = true := by simp; omega
      have b1 : (Ac == 1) = true := by simp; omega
      have d4 : decide (-1 ≤ Pe) = false := by simp; omega
      rw [g0] at K1
      rw [g1] at K2
      replace K1 := Lib.hid K1
      replace K2 := Lib.hid K2
      clear hl hl2 hl3 hb hb2 hb3 g0 g1 g2 g3 g4
      go_enter Try.func11, Try.ntmps11
      go_wp2_with fail
      refine (K1.out _ (HB.out.below (by go_grown))).mono ?_
      rintro r w1 ⟨rfl, rfl⟩
      go_wp2_with fail
      refine (K2.out _ (HB2.out.below (by go_grown))).mono ?_
      rintro r w1 ⟨rfl, rfl⟩
      go_wp2
      go_ret
      exact ⟨rfl, by go_grown⟩
  by_cases g5 : Pe ≤ 1
  rotate_left 1
  · rcases g3 with g3 | g3
    · rw [show vP R W Ac Pe ch = false from by unfold vP; rw [decide_eq_false g5]; simp]
      have e2 : ((n2 : Int) == (n : Int)) = true := by simp; omega
      have d2 : decide ((n2 : Int) = (n : Int)) = true := by simp; omega
      have a0 : decide (Ac = 0) = true := by simp; omega
      have b0 : (Ac == 0) = true := by simp; omega
      have d4 : decide (-1 ≤ Pe) = true := by simp; omega
      have d5 : decide (Pe ≤ 1) = false := by simp; omega
      rw [g0] at K1
      rw [g1] at K2
      replace K1 := Lib.hid K1
      replace K2 := Lib.hid K2
      clear hl hl2 hl3 hb hb2 hb3 g0 g1 g2 g3 g4 g5
      go_enter Try.func11, Try.ntmps11
      go_wp2_with fail
      refine (K1.out _ (HB.out.below (by go_grown))).mono ?_
      rintro r w1 ⟨rfl, rfl⟩
      go_wp2_with fail
      refine (K2.out _ (HB2.out.below (by go_grown))).mono ?_
      rintro r w1 ⟨rfl, rfl⟩
      go_wp2
      go_ret
      exact ⟨rfl, by go_grown⟩
    · rw [show vP R W Ac Pe ch = false from by unfold vP; rw [decide_eq_false g5]; simp]
      have e2 : ((n2 : Int) == (n : Int)) = true := by simp; omega
      have d2 : decide ((n2 : Int) = (n : Int)) = true := by simp; omega
      have a0 : decide (Ac = 0) = false := by simp; omega
      have b0 : (Ac == 0) = false := by simp; omega
      have a1 : decide (Ac = 1) = true := by simp; omega
      have b1 : (Ac == 1) = true := by simp; omega
      have d4 : decide (-1 ≤ Pe) = true := by simp; omega
      have d5 : decide (Pe ≤ 1) = false := by simp; omega
      rw [g0] at K1
      rw [g1] at K2
      replace K1 := Lib.hid K1
      replace K2 := Lib.hid K2
      clear hl hl2 hl3 hb hb2 hb3 g0 g1 g2 g3 g4 g5
      go_enter Try.func11, Try.ntmps11
      go_wp2_with fail
      refine (K1.out _ (HB.out.below (by go_grown))).mono ?_
      rintro r w1 ⟨rfl, rfl⟩
      go_wp2_with fail
      refine (K2.out _ (HB2.out.below (by go_grown))).mono ?_
      rintro r w1 ⟨rfl, rfl⟩
      go_wp2
      go_ret
      exact ⟨rfl, by go_grown⟩
  by_cases g6 : m ≤ 100
  rotate_left 1
  · rcases g3 with g3 | g3
    · rw [show vP R W Ac Pe ch = false from by unfold vP; rw [hl3, decide_eq_false g6]; simp]
      have e2 : ((n2 : Int) == (n : Int)) = true := by simp; omega
      have d2 : decide ((n2 : Int) = (n : Int)) = true := by simp; omega
      have a0 : decide (Ac = 0) = true := by simp; omega
      have b0 : (Ac == 0) = true := by simp; omega
      have d4 : decide (-1 ≤ Pe) = true := by simp; omega
      have d5 : decide (Pe ≤ 1) = true := by simp; omega
      have d6 : decide ((m : Int) ≤ 100) = false := by simp; omega
      rw [g0] at K1
      rw [g1] at K2
      replace K1 := Lib.hid K1
      replace K2 := Lib.hid K2
      clear hl hl2 hl3 hb hb2 hb3 g0 g1 g2 g3 g4 g5 g6
      go_enter Try.func11, Try.ntmps11
      go_wp2_with fail
      refine (K1.out _ (HB.out.below (by go_grown))).mono ?_
      rintro r w1 ⟨rfl, rfl⟩
      go_wp2_with fail
      refine (K2.out _ (HB2.out.below (by go_grown))).mono ?_
      rintro r w1 ⟨rfl, rfl⟩
      go_wp2
      go_ret
      exact ⟨rfl, by go_grown⟩
    · rw [show vP R W Ac Pe ch = false from by unfold vP; rw [hl3, decide_eq_false g6]; simp]
      have e2 : ((n2 : Int) == (n : Int)) = true := by simp; omega
      have d2 : decide ((n2 : Int) = (n : Int)) = true := by simp; omega
      have a0 : decide (Ac = 0) = false := by simp; omega
      have b0 : (Ac == 0) = false := by simp; omega
      have a1 : decide (Ac = 1) = true := by simp; omega
      have b1 : (Ac == 1) = true := by simp; omega
      have d4 : decide (-1 ≤ Pe) = true := by simp; omega
      have d5 : decide (Pe ≤ 1) = true := by simp; omega
      have d6 : decide ((m : Int) ≤ 100) = false := by simp; omega
      rw [g0] at K1
      rw [g1] at K2
      replace K1 := Lib.hid K1
      replace K2 := Lib.hid K2
      clear hl hl2 hl3 hb hb2 hb3 g0 g1 g2 g3 g4 g5 g6
      go_enter Try.func11, Try.ntmps11
      go_wp2_with fail
      refine (K1.out _ (HB.out.below (by go_grown))).mono ?_
      rintro r w1 ⟨rfl, rfl⟩
      go_wp2_with fail
      refine (K2.out _ (HB2.out.below (by go_grown))).mono ?_
      rintro r w1 ⟨rfl, rfl⟩
      go_wp2
      go_ret
      exact ⟨rfl, by go_grown⟩
  rw [show vP R W Ac Pe ch = allC n ch from by unfold vP; rw [g0, g1, hl2, hl, hl3, decide_eq_true g2, decide_eq_true g4, decide_eq_true g5, decide_eq_true g6]; rcases g3 with g3 | g3 <;> simp [g3]]
  rcases g3 with g3 | g3
  · have e2 : ((n2 : Int) == (n : Int)) = true := by simp; omega
    have d2 : decide ((n2 : Int) = (n : Int)) = true := by simp; omega
    have a0 : decide (Ac = 0) = true := by simp; omega
    have b0 : (Ac == 0) = true := by simp; omega
    have d4 : decide (-1 ≤ Pe) = true := by simp; omega
    have d5 : decide (Pe ≤ 1) = true := by simp; omega
    have d6 : decide ((m : Int) ≤ 100) = true := by simp; omega
    rw [g0] at K1
    rw [g1] at K2
    replace K1 := Lib.hid K1
    replace K2 := Lib.hid K2
    have hm6 : m ≤ 1000000 := by omega
    clear hl hl2 hl3 hb hb2 hb3 g0 g1 g2 g3 g4 g5 g6
    go_enter Try.func11, Try.ntmps11
    go_wp2_with fail
    refine (K1.out _ (HB.out.below (by go_grown))).mono ?_
    rintro r w1 ⟨rfl, rfl⟩
    go_wp2_with fail
    refine (K2.out _ (HB2.out.below (by go_grown))).mono ?_
    rintro r w1 ⟨rfl, rfl⟩
    go_wp2_with fail
    refine (cont32 A3 m c3 _ n ch _ HL3.out (HB3.out.below (by go_grown)) hm6 hc3 (by go_cell) (by simp)).mono ?_
    rintro r w1 ⟨rfl, hb1⟩
    have hg1 := chain (w := w) (by go_grown) hb1
    go_wp2
    go_ret
    exact ⟨by simp, hg1⟩
  · have e2 : ((n2 : Int) == (n : Int)) = true := by simp; omega
    have d2 : decide ((n2 : Int) = (n : Int)) = true := by simp; omega
    have a0 : decide (Ac = 0) = false := by simp; omega
    have b0 : (Ac == 0) = false := by simp; omega
    have a1 : decide (Ac = 1) = true := by simp; omega
    have b1 : (Ac == 1) = true := by simp; omega
    have d4 : decide (-1 ≤ Pe) = true := by simp; omega
    have d5 : decide (Pe ≤ 1) = true := by simp; omega
    have d6 : decide ((m : Int) ≤ 100) = true := by simp; omega
    rw [g0] at K1
    rw [g1] at K2
    replace K1 := Lib.hid K1
    replace K2 := Lib.hid K2
    have hm6 : m ≤ 1000000 := by omega
    clear hl hl2 hl3 hb hb2 hb3 g0 g1 g2 g3 g4 g5 g6
    go_enter Try.func11, Try.ntmps11
    go_wp2_with fail
    refine (K1.out _ (HB.out.below (by go_grown))).mono ?_
    rintro r w1 ⟨rfl, rfl⟩
    go_wp2_with fail
    refine (K2.out _ (HB2.out.below (by go_grown))).mono ?_
    rintro r w1 ⟨rfl, rfl⟩
    go_wp2_with fail
    refine (cont32 A3 m c3 _ n ch _ HL3.out (HB3.out.below (by go_grown)) hm6 hc3 (by go_cell) (by simp)).mono ?_
    rintro r w1 ⟨rfl, hb1⟩
    have hg1 := chain (w := w) (by go_grown) hb1
    go_wp2
    go_ret
    exact ⟨by simp, hg1⟩
end Go.Proofs.Ytamajedopofcoaa
