/-
  Pages in plain terms; the contract of the search for a wrong change. No condition but the slice's shape.
  The contract of Valid. No condition but the slices' shape.
  The contracts of slices.Clone. No condition but the slices' shape.
  Blocks of five cells; pages that a call has made. No condition.
-/
import Derived.Test.YtamajedopofcoaaZBase
set_option linter.unusedVariables false
set_option linter.unusedSimpArgs false
namespace Go.Proofs.Ytamajedopofcoaa
open Go.RowKit
/-- a change that is right where there are n parameters -/
def chB (n : Nat) (p : Int × Int) : Bool := decide (0 ≤ p.1) && decide (p.1 < n) && parB p.2
def allC (n : Nat) (ch : List (Int × Int)) : Bool := ch.all (chB n)
theorem allC_t {n : Nat} {ch : List (Int × Int)} (h : ∀ (i : Nat) (p : Int × Int), ch[i]? = some p → chB n p = true) : allC n ch = true := by
  unfold allC
  rw [List.all_eq_true]
  intro x hx
  obtain ⟨i, hi, rfl⟩ := List.mem_iff_getElem.1 hx
  exact h i _ (List.getElem?_eq_getElem hi)
theorem allC_f {n : Nat} {ch : List (Int × Int)} {i : Nat} {p : Int × Int} (hi : ch[i]? = some p) (h : chB n p = false) : allC n ch = false := by
  unfold allC
  rw [List.all_eq_false]
  exact ⟨p, List.mem_of_getElem? hi, by rw [h]; decide⟩
set_option maxRecDepth 100000 in
theorem valid33 (a b : Int) (N n : Nat) (w : World) (hN : w.cell? ⟨N, 0, none⟩ = some (.int .i64 n)) (hl : N < w.heap.size) :
    Calls Try.prog 33 #[.agg #[.int .i64 a, .int .i64 b], .pointer (some ⟨N, 0, none⟩)] w fun r w' => r = .returned (.bool (!chB n (a, b))) ∧ Below w.heap.size w w' := by
  have M := fun w => param34 b w
  have hN1 : (w.alloc (.cells #[.int .i64 a, .int .i64 b] 56)).cell? ⟨N, 0, none⟩ = some (.int .i64 n) := (World.cell?_alloc_lt _ _ _ hl).trans hN
  have e : chB n (a, b) = (decide (0 ≤ a) && decide (a < n) && parB b) := rfl
  rw [e]
  generalize parB b = pb at M
  replace M := Lib.hid M
  clear e hN
  by_cases h1 : a < 0
  · have d1 : decide (a < 0) = true := by simp [h1]
    have d2 : decide (0 ≤ a) = false := by simp; omega
    rw [d2]
    clear d2 h1
    go_enter Try.func33, Try.ntmps33
    go_wp2
    go_ret
    exact ⟨rfl, by go_grown⟩
  · have d1 : decide (a < 0) = false := by simp; omega
    have d2 : decide (0 ≤ a) = true := by simp; omega
    rw [d2]
    clear d2 h1
    by_cases h2 : a < n
    · have d3 : decide ((n : Int) ≤ a) = false := by simp; omega
      have d4 : decide (a < (n : Int)) = true := by simp; omega
      rw [d4]
      clear h2 d4
      go_enter Try.func33, Try.ntmps33
      go_wp2_with fail
      refine (M.out _).mono ?_
      rintro r w1 ⟨rfl, rfl⟩
      go_wp2
      go_ret
      exact ⟨by simp, by go_grown⟩
    · have d3 : decide ((n : Int) ≤ a) = true := by simp; omega
      have d4 : decide (a < (n : Int)) = false := by simp; omega
      rw [d4]
      clear h2 d4
      go_enter Try.func33, Try.ntmps33
      go_wp2
      go_ret
      exact ⟨by simp, by go_grown⟩
set_option maxRecDepth 100000 in
set_option maxHeartbeats 4000000 in
theorem index45 (A : Option Addr) (m c N n : Nat) (ch : List (Int × Int)) (w : World) (hl : ch.length = m) (hb : Ik .i64 w A (flat ch)) (hm : m ≤ 1000000) (hc : m ≤ c) (hN : w.cell? ⟨N, 0, none⟩ = some (.int .i64 n)) (hNl : N < w.heap.size) :
    Calls Try.prog 45 #[.slice A m c, .func (.func 33) #[] #[.pointer (some ⟨N, 0, none⟩)]] w fun r w' => ∃ v : Int, r = .returned (.int .i64 v) ∧ decide (0 ≤ v) = !allC n ch ∧ Below w.heap.size w w' := by
  have HL := Lib.hid hl
  have HB := Lib.hid hb
  have HN := Lib.hid hN
  clear hl hb hN
  go_enter Try.func45, Try.ntmps45
  go_wp2_with fail
  go_loopg [8] m (fun gk v wr => ∃ i : Nat, i ≤ m ∧ m - i ≤ gk ∧ v = .int .i64 i ∧ Hid (∀ j p, j < i → ch[j]? = some p → chB n p = true) ∧ Below w.heap.size w wr)
  case atStart => exact ⟨0, by omega, by omega, rfl, Lib.hid (fun j p h => by omega), Below.refl _ _⟩
  case round =>
    obtain ⟨i, hi, hgk, rfl, HA, hg⟩ := hrel
    by_cases hlt : i < m
    · obtain ⟨b, o, rfl, hbl⟩ := HB.out.addr (by rw [flat_len, HL.out]; omega)
      have hip : i < ch.length := by rw [HL.out]; exact hlt
      obtain ⟨p, hp⟩ : ∃ p, ch[i]? = some p := ⟨_, List.getElem?_eq_getElem hip⟩
      obtain ⟨g1, g2⟩ := flat_get ch i p hp
      obtain ⟨x, y⟩ := p
      have hgz := hg.size
      obtain ⟨b', o', e', _, hcell⟩ := (HB.out.below hg) (by rw [flat_len]; omega)
      injection e' with e'; injection e' with e1 e2
      subst e1; subst e2
      have q1 := hcell _ _ g1
      have q2 := hcell _ _ g2
      rw [← Nat.add_assoc] at q2
      simp only at q1 q2
      have K := fun w h h2 => valid33 x y N n w h h2
      have hNr : wr.cell? ⟨N, 0, none⟩ = some (.int .i64 n) := ((bcell hg).1 _ _ hNl).trans HN.out
      have HNR := Lib.hid hNr
      have HP := Lib.hid hp
      have hNlr : N < wr.heap.size := by omega
      clear hcell g1 g2 hp hNr hip
      cases hq : chB n (x, y)
      · rw [hq] at K
        replace K := Lib.hid K
        have HQ := Lib.hid hq
        clear hq
        go_wp2_with fail
        refine (K.out _ HNR.out hNlr).mono ?_
        rintro r w1 ⟨rfl, hb1⟩
        have hg1 := chain hg hb1
        go_wp2
        go_ret
        exact ⟨i, rfl, by rw [allC_f HP.out HQ.out]; simp, hg1⟩
      · rw [hq] at K
        replace K := Lib.hid K
        have HQ := Lib.hid hq
        clear hq
        go_wp2_with fail
        refine (K.out _ HNR.out hNlr).mono ?_
        rintro r w1 ⟨rfl, hb1⟩
        have hg1 := chain hg hb1
        go_wp2_with fail
        go_roundg (m - (i + 1))
        case measure => omega
        case rel =>
          refine ⟨i + 1, by omega, by omega, by go_num, Lib.hid (fun j p h hj => ?_), hg1⟩
          by_cases hji : j = i
          · subst hji
            rw [HP.out] at hj
            obtain rfl := Option.some.inj hj
            exact HQ.out
          · exact HA.out j p (by omega) hj
    · obtain rfl : i = m := by omega
      go_wp2
      go_ret
      exact ⟨-1, rfl, by rw [allC_t (fun j p hj => HA.out j p (by have := (List.getElem?_eq_some_iff.1 hj).1; rw [HL.out] at this; exact this) hj)]; rfl, hg⟩
theorem cont32 (A : Option Addr) (m c N n : Nat) (ch : List (Int × Int)) (w : World) (hl : ch.length = m) (hb : Ik .i64 w A (flat ch)) (hm : m ≤ 1000000) (hc : m ≤ c) (hN : w.cell? ⟨N, 0, none⟩ = some (.int .i64 n)) (hNl : N < w.heap.size) :
    Calls Try.prog 32 #[.slice A m c, .func (.func 33) #[] #[.pointer (some ⟨N, 0, none⟩)]] w fun r w' => r = .returned (.bool (!allC n ch)) ∧ Below w.heap.size w w' := by
  have K := Lib.hid (index45 A m c N n ch w hl hb hm hc hN hNl)
  clear hl hb hN
  go_enter Try.func32, Try.ntmps32
  go_wp2_with fail
  refine K.out.mono ?_
  rintro r w1 ⟨v, rfl, hv, hb1⟩
  have HV := Lib.hid hv
  clear hv
  go_wp2
  go_ret
  exact ⟨ret_bool HV.out, hb1⟩
end Go.Proofs.Ytamajedopofcoaa
set_option linter.unusedVariables false
set_option linter.unusedSimpArgs false
namespace Go.Proofs.Ytamajedopofcoaa
open Go.RowKit
/-- pages -/
structure PG where
  R : List Int
  W : List Int
  Ac : Int
  Pe : Int
  Ch : List (Int × Int)
def vP (R W : List Int) (Ac Pe : Int) (ch : List (Int × Int)) : Bool :=
  listB R && listB W && decide (W.length = R.length) && (decide (Ac = 0) || decide (Ac = 1)) && decide (-1 ≤ Pe) && decide (Pe ≤ 1) && decide (ch.length ≤ 100) && allC R.length ch
set_option maxRecDepth 100000 in
set_option maxHeartbeats 16000000 in
theorem valid11 (A : Option Addr) (n c : Nat) (A2 : Option Addr) (n2 c2 : Nat) (Ac Pe : Int) (A3 : Option Addr) (m c3 : Nat) (R W : List Int) (ch : List (Int × Int)) (w : World) (hl : R.length = n) (hb : Ik .i64 w A R) (hc : n ≤ c) (hl2 : W.length = n2) (hb2 : Ik .i64 w A2 W) (hc2 : n2 ≤ c2) (hl3 : ch.length = m) (hb3 : Ik .i64 w A3 (flat ch)) (hc3 : m ≤ c3) (hs : n ≤ 5000) (hs2 : n2 ≤ 5000) (hs3 : m ≤ 5000) : Calls Try.prog 11 #[.agg #[.slice A n c, .slice A2 n2 c2, .int .i64 Ac, .int .i64 Pe, .slice A3 m c3]] w fun r w' => r = .returned (.bool (vP R W Ac Pe ch)) ∧ Below w.heap.size w w' := by
  have K1 := fun w h => list29 A n c R w hl h hc
  have K2 := fun w h => list29 A2 n2 c2 W w hl2 h hc2
  have HB := Lib.hid hb
  have HB2 := Lib.hid hb2
  have HB3 := Lib.hid hb3
  have HL3 := Lib.hid hl3
  cases g0 : listB R
  · rw [show vP R W Ac Pe ch = false from by unfold vP; rw [g0]; rfl]
    rw [g0] at K1
    replace K1 := Lib.hid K1
    replace K2 := Lib.hid K2
    clear hl hl2 hl3 hb hb2 hb3 g0
    go_enter Try.func11, Try.ntmps11
    go_wp2_with fail
    refine (K1.out _ (HB.out.below (by go_grown))).mono ?_
    rintro r w1 ⟨rfl, rfl⟩
    go_wp2
    go_ret; exact ⟨rfl, by go_grown⟩
  cases g1 : listB W
  · rw [show vP R W Ac Pe ch = false from by unfold vP; rw [g1]; simp]
    rw [g0] at K1
    rw [g1] at K2
    replace K1 := Lib.hid K1
    replace K2 := Lib.hid K2
    clear hl hl2 hl3 hb hb2 hb3 g0 g1
    go_enter Try.func11, Try.ntmps11
    go_wp2_with fail
    refine (K1.out _ (HB.out.below (by go_grown))).mono ?_
    rintro r w1 ⟨rfl, rfl⟩
    go_wp2_with fail
    refine (K2.out _ (HB2.out.below (by go_grown))).mono ?_
    rintro r w1 ⟨rfl, rfl⟩
    go_wp2
    go_ret; exact ⟨rfl, by go_grown⟩
  by_cases g2 : n2 = n
  rotate_left 1
  · rw [show vP R W Ac Pe ch = false from by unfold vP; rw [hl2, hl, decide_eq_false g2]; simp]
    have e2 : ((n2 : Int) == (n : Int)) = false := by simp; omega
    have d2 : decide ((n2 : Int) = (n : Int)) = false := by simp; omega
    rw [g0] at K1
    rw [g1] at K2
    replace K1 := Lib.hid K1
    replace K2 := Lib.hid K2
    clear hl hl2 hl3 hb hb2 hb3 g0 g1 g2
    go_enter Try.func11, Try.ntmps11
    go_wp2_with fail
    refine (K1.out _ (HB.out.below (by go_grown))).mono ?_
    rintro r w1 ⟨rfl, rfl⟩
    go_wp2_with fail
    refine (K2.out _ (HB2.out.below (by go_grown))).mono ?_
    rintro r w1 ⟨rfl, rfl⟩
    go_wp2
    go_ret
    exact ⟨rfl, by go_grown⟩
  by_cases g3 : Ac = 0 ∨ Ac = 1
  rotate_left 1
  · rw [show vP R W Ac Pe ch = false from by unfold vP; rw [decide_eq_false (fun h => g3 (.inl h)), decide_eq_false (fun h => g3 (.inr h))]; simp]
    have e2 : ((n2 : Int) == (n : Int)) = true := by simp; omega
    have d2 : decide ((n2 : Int) = (n : Int)) = true := by simp; omega
    have a0 : decide (Ac = 0) = false := by simp; omega
    have b0 : (Ac == 0) = false := by simp; omega
    have a1 : decide (Ac = 1) = false := by simp; omega
    have b1 : (Ac == 1) = false := by simp; omega
    rw [g0] at K1
    rw [g1] at K2
    replace K1 := Lib.hid K1
    replace K2 := Lib.hid K2
    clear hl hl2 hl3 hb hb2 hb3 g0 g1 g2 g3
    go_enter Try.func11, Try.ntmps11
    go_wp2_with fail
    refine (K1.out _ (HB.out.below (by go_grown))).mono ?_
    rintro r w1 ⟨rfl, rfl⟩
    go_wp2_with fail
    refine (K2.out _ (HB2.out.below (by go_grown))).mono ?_
    rintro r w1 ⟨rfl, rfl⟩
    go_wp2
    go_ret; exact ⟨rfl, by go_grown⟩
  by_cases g4 : -1 ≤ Pe
  rotate_left 1
  · rcases g3 with g3 | g3
    · rw [show vP R W Ac Pe ch = false from by unfold vP; rw [decide_eq_false g4]; simp]
      have e2 : ((n2 : Int) == (n : Int)) = true := by simp; omega
      have d2 : decide ((n2 : Int) = (n : Int)) = true := by simp; omega
      have a0 : decide (Ac = 0) = true := by simp; omega
      have b0 : (Ac == 0) = true := by simp; omega
      have d4 : decide (-1 ≤ Pe) = false := by simp; omega
      rw [g0] at K1
      rw [g1] at K2
      replace K1 := Lib.hid K1
      replace K2 := Lib.hid K2
      clear hl hl2 hl3 hb hb2 hb3 g0 g1 g2 g3 g4
      go_enter Try.func11, Try.ntmps11
      go_wp2_with fail
      refine (K1.out _ (HB.out.below (by go_grown))).mono ?_
      rintro r w1 ⟨rfl, rfl⟩
      go_wp2_with fail
      refine (K2.out _ (HB2.out.below (by go_grown))).mono ?_
      rintro r w1 ⟨rfl, rfl⟩
      go_wp2
      go_ret
      exact ⟨rfl, by go_grown⟩
    · rw [show vP R W Ac Pe ch = false from by unfold vP; rw [decide_eq_false g4]; simp]
      have e2 : ((n2 : Int) == (n : Int)) = true := by simp; omega
      have d2 : decide ((n2 : Int) = (n : Int)) = true := by simp; omega
      have a0 : decide (Ac = 0) = false := by simp; omega
      have b0 : (Ac == 0) = false := by simp; omega
      have a1 : decide (Ac = 1) = true := by simp; omega
      have b1 : (Ac == 1) = true := by simp; omega
      have d4 : decide (-1 ≤ Pe) = false := by simp; omega
      rw [g0] at K1
      rw [g1] at K2
      replace K1 := Lib.hid K1
      replace K2 := Lib.hid K2
      clear hl hl2 hl3 hb hb2 hb3 g0 g1 g2 g3 g4
      go_enter Try.func11, Try.ntmps11
      go_wp2_with fail
      refine (K1.out _ (HB.out.below (by go_grown))).mono ?_
      rintro r w1 ⟨rfl, rfl⟩
      go_wp2_with fail
      refine (K2.out _ (HB2.out.below (by go_grown))).mono ?_
      rintro r w1 ⟨rfl, rfl⟩
      go_wp2
      go_ret
      exact ⟨rfl, by go_grown⟩
  by_cases g5 : Pe ≤ 1
  rotate_left 1
  · rcases g3 with g3 | g3
    · rw [show vP R W Ac Pe ch = false from by unfold vP; rw [decide_eq_false g5]; simp]
      have e2 : ((n2 : Int) == (n : Int)) = true := by simp; omega
      have d2 : decide ((n2 : Int) = (n : Int)) = true := by simp; omega
      have a0 : decide (Ac = 0) = true := by simp; omega
      have b0 : (Ac == 0) = true := by simp; omega
      have d4 : decide (-1 ≤ Pe) = true := by simp; omega
      have d5 : decide (Pe ≤ 1) = false := by simp; omega
      rw [g0] at K1
      rw [g1] at K2
      replace K1 := Lib.hid K1
      replace K2 := Lib.hid K2
      clear hl hl2 hl3 hb hb2 hb3 g0 g1 g2 g3 g4 g5
      go_enter Try.func11, Try.ntmps11
      go_wp2_with fail
      refine (K1.out _ (HB.out.below (by go_grown))).mono ?_
      rintro r w1 ⟨rfl, rfl⟩
      go_wp2_with fail
      refine (K2.out _ (HB2.out.below (by go_grown))).mono ?_
      rintro r w1 ⟨rfl, rfl⟩
      go_wp2
      go_ret
      exact ⟨rfl, by go_grown⟩
    · rw [show vP R W Ac Pe ch = false from by unfold vP; rw [decide_eq_false g5]; simp]
      have e2 : ((n2 : Int) == (n : Int)) = true := by simp; omega
      have d2 : decide ((n2 : Int) = (n : Int)) = true := by simp; omega
      have a0 : decide (Ac = 0) = false := by simp; omega
      have b0 : (Ac == 0) = false := by simp; omega
      have a1 : decide (Ac = 1) = true := by simp; omega
      have b1 : (Ac == 1) = true := by simp; omega
      have d4 : decide (-1 ≤ Pe) = true := by simp; omega
      have d5 : decide (Pe ≤ 1) = false := by simp; omega
      rw [g0] at K1
      rw [g1] at K2
      replace K1 := Lib.hid K1
      replace K2 := Lib.hid K2
      clear hl hl2 hl3 hb hb2 hb3 g0 g1 g2 g3 g4 g5
      go_enter Try.func11, Try.ntmps11
      go_wp2_with fail
      refine (K1.out _ (HB.out.below (by go_grown))).mono ?_
      rintro r w1 ⟨rfl, rfl⟩
      go_wp2_with fail
      refine (K2.out _ (HB2.out.below (by go_grown))).mono ?_
      rintro r w1 ⟨rfl, rfl⟩
      go_wp2
      go_ret
      exact ⟨rfl, by go_grown⟩
  by_cases g6 : m ≤ 100
  rotate_left 1
  · rcases g3 with g3 | g3
    · rw [show vP R W Ac Pe ch = false from by unfold vP; rw [hl3, decide_eq_false g6]; simp]
      have e2 : ((n2 : Int) == (n : Int)) = true := by simp; omega
      have d2 : decide ((n2 : Int) = (n : Int)) = true := by simp; omega
      have a0 : decide (Ac = 0) = true := by simp; omega
      have b0 : (Ac == 0) = true := by simp; omega
      have d4 : decide (-1 ≤ Pe) = true := by simp; omega
      have d5 : decide (Pe ≤ 1) = true := by simp; omega
      have d6 : decide ((m : Int) ≤ 100) = false := by simp; omega
      rw [g0] at K1
      rw [g1] at K2
      replace K1 := Lib.hid K1
      replace K2 := Lib.hid K2
      clear hl hl2 hl3 hb hb2 hb3 g0 g1 g2 g3 g4 g5 g6
      go_enter Try.func11, Try.ntmps11
      go_wp2_with fail
      refine (K1.out _ (HB.out.below (by go_grown))).mono ?_
      rintro r w1 ⟨rfl, rfl⟩
      go_wp2_with fail
      refine (K2.out _ (HB2.out.below (by go_grown))).mono ?_
      rintro r w1 ⟨rfl, rfl⟩
      go_wp2
      go_ret
      exact ⟨rfl, by go_grown⟩
    · rw [show vP R W Ac Pe ch = false from by unfold vP; rw [hl3, decide_eq_false g6]; simp]
      have e2 : ((n2 : Int) == (n : Int)) = true := by simp; omega
      have d2 : decide ((n2 : Int) = (n : Int)) = true := by simp; omega
      have a0 : decide (Ac = 0) = false := by simp; omega
      have b0 : (Ac == 0) = false := by simp; omega
      have a1 : decide (Ac = 1) = true := by simp; omega
      have b1 : (Ac == 1) = true := by simp; omega
      have d4 : decide (-1 ≤ Pe) = true := by simp; omega
      have d5 : decide (Pe ≤ 1) = true := by simp; omega
      have d6 : decide ((m : Int) ≤ 100) = false := by simp; omega
      rw [g0] at K1
      rw [g1] at K2
      replace K1 := Lib.hid K1
      replace K2 := Lib.hid K2
      clear hl hl2 hl3 hb hb2 hb3 g0 g1 g2 g3 g4 g5 g6
      go_enter Try.func11, Try.ntmps11
      go_wp2_with fail
      refine (K1.out _ (HB.out.below (by go_grown))).mono ?_
      rintro r w1 ⟨rfl, rfl⟩
      go_wp2_with fail
      refine (K2.out _ (HB2.out.below (by go_grown))).mono ?_
      rintro r w1 ⟨rfl, rfl⟩
      go_wp2
      go_ret
      exact ⟨rfl, by go_grown⟩
  rw [show vP R W Ac Pe ch = allC n ch from by unfold vP; rw [g0, g1, hl2, hl, hl3, decide_eq_true g2, decide_eq_true g4, decide_eq_true g5, decide_eq_true g6]; rcases g3 with g3 | g3 <;> simp [g3]]
  rcases g3 with g3 | g3
  · have e2 : ((n2 : Int) == (n : Int)) = true := by simp; omega
    have d2 : decide ((n2 : Int) = (n : Int)) = true := by simp; omega
    have a0 : decide (Ac = 0) = true := by simp; omega
    have b0 : (Ac == 0) = true := by simp; omega
    have d4 : decide (-1 ≤ Pe) = true := by simp; omega
    have d5 : decide (Pe ≤ 1) = true := by simp; omega
    have d6 : decide ((m : Int) ≤ 100) = true := by simp; omega
    rw [g0] at K1
    rw [g1] at K2
    replace K1 := Lib.hid K1
    replace K2 := Lib.hid K2
    have hm6 : m ≤ 1000000 := by omega
    clear hl hl2 hl3 hb hb2 hb3 g0 g1 g2 g3 g4 g5 g6
    go_enter Try.func11, Try.ntmps11
    go_wp2_with fail
    refine (K1.out _ (HB.out.below (by go_grown))).mono ?_
    rintro r w1 ⟨rfl, rfl⟩
    go_wp2_with fail
    refine (K2.out _ (HB2.out.below (by go_grown))).mono ?_
    rintro r w1 ⟨rfl, rfl⟩
    go_wp2_with fail
    refine (cont32 A3 m c3 _ n ch _ HL3.out (HB3.out.below (by go_grown)) hm6 hc3 (by go_cell) (by simp)).mono ?_
    rintro r w1 ⟨rfl, hb1⟩
    have hg1 := chain (w := w) (by go_grown) hb1
    go_wp2
    go_ret
    exact ⟨by simp, hg1⟩
  · have e2 : ((n2 : Int) == (n : Int)) = true := by simp; omega
    have d2 : decide ((n2 : Int) = (n : Int)) = true := by simp; omega
    have a0 : decide (Ac = 0) = false := by simp; omega
    have b0 : (Ac == 0) = false := by simp; omega
    have a1 : decide (Ac = 1) = true := by simp; omega
    have b1 : (Ac == 1) = true := by simp; omega
    have d4 : decide (-1 ≤ Pe) = true := by simp; omega
    have d5 : decide (Pe ≤ 1) = true := by simp; omega
    have d6 : decide ((m : Int) ≤ 100) = true := by simp; omega
    rw [g0] at K1
    rw [g1] at K2
    replace K1 := Lib.hid K1
    replace K2 := Lib.hid K2
    have hm6 : m ≤ 1000000 := by omega
    clear hl hl2 hl3 hb hb2 hb3 g0 g1 g2 g3 g4 g5 g6
    go_enter Try.func11, Try.ntmps11
    go_wp2_with fail
    refine (K1.out _ (HB.out.below (by go_grown))).mono ?_
    rintro r w1 ⟨rfl, rfl⟩
    go_wp2_with fail
    refine (K2.out _ (HB2.out.below (by go_grown))).mono ?_
    rintro r w1 ⟨rfl, rfl⟩
    go_wp2_with fail
    refine (cont32 A3 m c3 _ n ch _ HL3.out (HB3.out.below (by go_grown)) hm6 hc3 (by go_cell) (by simp)).mono ?_
    rintro r w1 ⟨rfl, hb1⟩
    have hg1 := chain (w := w) (by go_grown) hb1
    go_wp2
    go_ret
    exact ⟨by simp, hg1⟩
end Go.Proofs.Ytamajedopofcoaa
set_option linter.unusedVariables false
set_option linter.unusedSimpArgs false
namespace Go.Proofs.Ytamajedopofcoaa
open Go.RowKit
theorem info3 : (Try.prog.info? 3).map (fun i => (i.zero, i.size, i.bytes)) = some (some (.int .i64 0), 1, 8) := by kernel_rfl
theorem info56 : (Try.prog.info? 56).map (fun i => (i.zero, i.size, i.bytes)) = some (some (.agg #[.int .i64 0, .int .i64 0]), 2, 16) := by kernel_rfl
/-- a slice of these numbers that the call has made -/
def Own (w : World) (B : Nat) (v : Value) (l : List Int) : Prop := w.ownsRow B 3 1 v l.length (l.map (Value.int .i64))
/-- a slice of these changes that the call has made -/
def OwC (w : World) (B : Nat) (v : Value) (ch : List (Int × Int)) : Prop := w.ownsRow B 56 2 v ch.length ((flat ch).map (Value.int .i64))
theorem own_it {w : World} {B : Nat} {e : TypeId} {size n : Nat} {v : Value} {l : List Int} (h : w.ownsRow B e size v n (l.map (Value.int .i64))) : ∃ A c, v = .slice A n c ∧ n ≤ c ∧ c ≤ maxLen ∧ Ik .i64 w A l ∧ Fr B A ∧ (∀ b o, A = some ⟨b, o, none⟩ → b < w.heap.size) := by
  obtain ⟨A, c, hv, hA, hc, hm⟩ := own_slice h
  refine ⟨A, c, hv, hc, hm, fun h0 => ?_, fun b o e => ?_, fun b o e => ?_⟩
  · have h1 := h.1
    simp only [List.length_map] at h1
    obtain ⟨b, rfl, _, hb, hcell⟩ := hA (by
      rcases Nat.eq_zero_or_pos n with h2 | h2
      · rw [h2, Nat.zero_mul] at h1; omega
      · exact h2)
    refine ⟨b, 0, rfl, hb, fun i x hx => ?_⟩
    rw [Nat.zero_add]
    exact hcell i _ (by simp [hx])
  · subst e
    exact own_ge h b (by rw [hv]; rfl)
  · subst e
    exact own_lt h b (by rw [hv]; rfl)
set_option maxHeartbeats 1000000 in
theorem clone27 (A : Option Addr) (n c : Nat) (l : List Int) (w : World) (hl : l.length = n) (hb : Ik .i64 w A l) (hn : n ≤ 1000000) (hc : n ≤ c) :
    Calls Try.prog 27 #[.slice A n c] w fun r w' => ∃ v, r = .returned v ∧ Own w' w.heap.size v l ∧ Below w.heap.size w w' := by
  obtain ⟨i0, hi, hz0, hz1, hz2⟩ := info_parts info3
  have q := fun (w : World) (a : Option Addr) (n c : Nat) => Lib.run_eql_slice_nil (P := Try.prog) w 22 3 a n c 0 0 Try.underlying22
  have HL := Lib.hid hl
  have hll : l.length = n * 1 := by rw [Nat.mul_one]; exact hl
  have HLL := Lib.hid hll
  cases A with
  | none =>
    have h0 : l = [] := by
      rcases h : l with _ | ⟨x, t⟩
      · rfl
      · obtain ⟨b, o, e, _⟩ := hb (by rw [h]; simp); cases e
    have hn0 : n = 0 := by rw [h0] at hll; simp at hll; omega
    have HH := Lib.hid h0
    have HN0 := Lib.hid hn0
    clear hl hll h0 hb
    go_enter Try.func27, Try.ntmps27
    go_wp2
    go_ret
    refine ⟨_, rfl, ?_, Below.refl _ _⟩
    unfold Own
    rw [HL.out, HH.out, HN0.out]
    exact World.ownsRow_nil _ _ _ _
  | some a =>
    have HN : Hid (∀ j v, (l.map (Value.int .i64))[j]? = some v → w.cell? (a.add j) = some v) := Lib.hid (fun j v hj => by
      have h0 : 0 < l.length := by
        have := (List.getElem?_eq_some_iff.1 hj).1
        simp at this; omega
      obtain ⟨b, o, e, _, _⟩ := id hb h0
      injection e with e; subst e
      exact hb.news j v hj)
    have HB : Hid (0 < l.length → a.block < w.heap.size) := Lib.hid (fun h0 => by
      obtain ⟨b, o, e, h, _⟩ := hb h0
      injection e with e; subst e
      exact h)
    clear hb hl hll
    go_enter Try.func27, Try.ntmps27
    go_wp2_with (at_builtin; go_loud (refine wpList_append_own _ rfl _ _ 22 rfl w.heap.size 3 i0 (.int .i64 0) 1 8 Try.underlying22 hi hz0 hz1 hz2 rfl (by decide) _ 0 [] rfl (World.ownsRow_made _ #[] 0 (Nat.le_refl _) (by simp [maxLen]) rfl) a n c (l.map (Value.int .i64)) rfl (by simpa using HLL.out) ?c1 ?c2 ?c3 ?c4 ?c5 ?_))
    case c1 =>
      intro j x hj
      have h0 : 0 < l.length := by
        have := (List.getElem?_eq_some_iff.1 hj).1
        simp at this; omega
      exact (World.cell?_alloc_lt _ _ _ (by have := HB.out h0; unfold Addr.add; split <;> simpa using this)).trans (HN.out j _ (by simpa using hj))
    case c2 => exact one_int _ _
    case c3 => simp [maxLen]; omega
    case c4 => omega
    case c5 => simp
    · intro v' w3 hown' hgrow _
      have hb3 : Below w.heap.size w w3 := (show Below w.heap.size w _ from by go_grown).grown hgrow (by simp) (by intro k hk; simp [Value.ownBlock] at hk; omega)
      go_wp2
      go_ret
      exact ⟨v', rfl, by simpa [Own, HL.out] using hown', hb3⟩
set_option maxHeartbeats 1000000 in
theorem clone46 (A : Option Addr) (n c : Nat) (ch : List (Int × Int)) (w : World) (hl : ch.length = n) (hb : Ik .i64 w A (flat ch)) (hn : n ≤ 1000000) (hc : n ≤ c) :
    Calls Try.prog 46 #[.slice A n c] w fun r w' => ∃ v, r = .returned v ∧ OwC w' w.heap.size v ch ∧ Below w.heap.size w w' := by
  obtain ⟨i0, hi, hz0, hz1, hz2⟩ := info_parts info56
  have q := fun (w : World) (a : Option Addr) (n c : Nat) => Lib.run_eql_slice_nil (P := Try.prog) w 23 56 a n c 0 0 Try.underlying23
  have HL := Lib.hid hl
  have hll : (flat ch).length = n * 2 := by rw [flat_len, hl]; omega
  have HLL := Lib.hid hll
  cases A with
  | none =>
    have h0 : (flat ch) = [] := by
      rcases h : (flat ch) with _ | ⟨x, t⟩
      · rfl
      · obtain ⟨b, o, e, _⟩ := hb (by rw [h]; simp); cases e
    have hn0 : n = 0 := by rw [h0] at hll; simp at hll; omega
    have HH := Lib.hid h0
    have HN0 := Lib.hid hn0
    clear hl hll h0 hb
    go_enter Try.func46, Try.ntmps46
    go_wp2
    go_ret
    refine ⟨_, rfl, ?_, Below.refl _ _⟩
    unfold OwC
    rw [HL.out, HH.out, HN0.out]
    exact World.ownsRow_nil _ _ _ _
  | some a =>
    have HN : Hid (∀ j v, ((flat ch).map (Value.int .i64))[j]? = some v → w.cell? (a.add j) = some v) := Lib.hid (fun j v hj => by
      have h0 : 0 < (flat ch).length := by
        have := (List.getElem?_eq_some_iff.1 hj).1
        simp at this; omega
      obtain ⟨b, o, e, _, _⟩ := id hb h0
      injection e with e; subst e
      exact hb.news j v hj)
    have HB : Hid (0 < (flat ch).length → a.block < w.heap.size) := Lib.hid (fun h0 => by
      obtain ⟨b, o, e, h, _⟩ := hb h0
      injection e with e; subst e
      exact h)
    clear hb hl hll
    go_enter Try.func46, Try.ntmps46
    go_wp2_with (at_builtin; go_loud (refine wpList_append_own _ rfl _ _ 23 rfl w.heap.size 56 i0 (.agg #[.int .i64 0, .int .i64 0]) 2 16 Try.underlying23 hi hz0 hz1 hz2 rfl (by decide) _ 0 [] rfl (World.ownsRow_made _ #[] 0 (Nat.le_refl _) (by simp [maxLen]) rfl) a n c ((flat ch).map (Value.int .i64)) rfl (by simpa using HLL.out) ?c1 ?c2 ?c3 ?c4 ?c5 ?_))
    case c1 =>
      intro j x hj
      have h0 : 0 < (flat ch).length := by
        have := (List.getElem?_eq_some_iff.1 hj).1
        simp at this; omega
      exact (World.cell?_alloc_lt _ _ _ (by have := HB.out h0; unfold Addr.add; split <;> simpa using this)).trans (HN.out j _ (by simpa using hj))
    case c2 => exact one_int _ _
    case c3 => simp [maxLen]; omega
    case c4 => omega
    case c5 => simp
    · intro v' w3 hown' hgrow _
      have hb3 : Below w.heap.size w w3 := (show Below w.heap.size w _ from by go_grown).grown hgrow (by simp) (by intro k hk; simp [Value.ownBlock] at hk; omega)
      go_wp2
      go_ret
      exact ⟨v', rfl, by simpa [OwC, HL.out] using hown', hb3⟩
end Go.Proofs.Ytamajedopofcoaa
set_option linter.unusedVariables false
set_option linter.unusedSimpArgs false
namespace Go.Proofs.Ytamajedopofcoaa
open Go.RowKit
/-- a block's cells, none frozen -/
def Cl (P : Nat) (w : World) (vs : List Value) : Prop := P < w.heap.size ∧ ∀ j v, vs[j]? = some v → w.cell? ⟨P, j, none⟩ = some v ∧ w.frozen? ⟨P, j, none⟩ = false
theorem Cl.below {P : Nat} {w w' : World} {vs : List Value} (h : Cl P w vs) (hb : Below w.heap.size w w') : Cl P w' vs :=
  ⟨Nat.lt_of_lt_of_le h.1 hb.size, fun j v e => ⟨((bcell hb).1 _ _ h.1).trans (h.2 j v e).1, ((bcell hb).2 _ _ h.1).trans (h.2 j v e).2⟩⟩
theorem Cl.new {P : Nat} {w : World} (hP : P = w.heap.size) (vs : List Value) (t : TypeId) : Cl P (w.alloc (.cells vs.toArray t)) vs := by
  subst hP
  refine ⟨by simp, fun j v e => ?_⟩
  have h := heap_alloc_new w (.cells vs.toArray t)
  refine ⟨?_, ?_⟩
  · simp only [World.cell?, h]
    simpa using e
  · simp only [World.frozen?, h]
    simp
theorem Cl.far {P b : Nat} {w : World} {vs : List Value} (h : Cl P w vs) (hne : b ≠ P) (o : Nat) (u : Value) : Cl P (w.setCell ⟨b, o, none⟩ u) vs :=
  ⟨by simpa using h.1, fun j v e => ⟨(World.cell?_setCell_far _ _ _ _ hne).trans (h.2 j v e).1, by rw [World.frozen?_setCell]; exact (h.2 j v e).2⟩⟩
theorem Cl.set {P : Nat} {w : World} {vs : List Value} (h : Cl P w vs) (i : Nat) (u : Value) : Cl P (w.setCell ⟨P, i, none⟩ u) (vs.set i u) := by
  refine ⟨by simpa using h.1, fun j v e => ?_⟩
  rw [List.getElem?_set] at e
  by_cases hij : i = j
  · subst hij
    simp only [if_true] at e
    split at e
    · rename_i hl
      have hv : v = u := by simpa using e.symm
      subst hv
      obtain ⟨h1, h2⟩ := h.2 i _ (List.getElem?_eq_getElem hl)
      exact ⟨World.cell?_setCell_same _ _ _ h1, by rw [World.frozen?_setCell]; exact h2⟩
    · cases e
  · rw [if_neg hij] at e
    obtain ⟨h1, h2⟩ := h.2 j v e
    exact ⟨(World.cell?_setCell_other _ _ _ _ (by intro q; injection q with _ q; exact hij q)).trans h1, by rw [World.frozen?_setCell]; exact h2⟩
theorem Cl.c {P : Nat} {w : World} {vs : List Value} (h : Cl P w vs) (j : Nat) {v : Value} (e : vs[j]? = some v) : w.cell? ⟨P, j, none⟩ = some v := (h.2 j v e).1
theorem Cl.f {P : Nat} {w : World} {vs : List Value} (h : Cl P w vs) (j : Nat) {v : Value} (e : vs[j]? = some v) : w.frozen? ⟨P, j, none⟩ = false := (h.2 j v e).2
theorem Cl.set5 {P : Nat} {w : World} {u0 u1 u2 u3 u4 : Value} (h : Cl P w [u0, u1, u2, u3, u4]) (v0 v1 v2 v3 v4 : Value) : Cl P (((((w.setCell ⟨P, 0, none⟩ v0).setCell ⟨P, 1, none⟩ v1).setCell ⟨P, 2, none⟩ v2).setCell ⟨P, 3, none⟩ v3).setCell ⟨P, 4, none⟩ v4) [v0, v1, v2, v3, v4] :=
  (((((h.set 0 v0).set 1 v1).set 2 v2).set 3 v3).set 4 v4)
theorem Cl.far5 {P Q : Nat} {w : World} {us : List Value} (h : Cl Q w us) (hne : P ≠ Q) (v0 v1 v2 v3 v4 : Value) : Cl Q (((((w.setCell ⟨P, 0, none⟩ v0).setCell ⟨P, 1, none⟩ v1).setCell ⟨P, 2, none⟩ v2).setCell ⟨P, 3, none⟩ v3).setCell ⟨P, 4, none⟩ v4) us :=
  (((((h.far hne 0 v0).far hne 1 v1).far hne 2 v2).far hne 3 v3).far hne 4 v4)
theorem below_set5 {w0 w : World} {B P : Nat} (h : Below B w0 w) (hP : B ≤ P) (v0 v1 v2 v3 v4 : Value) : Below B w0 (((((w.setCell ⟨P, 0, none⟩ v0).setCell ⟨P, 1, none⟩ v1).setCell ⟨P, 2, none⟩ v2).setCell ⟨P, 3, none⟩ v3).setCell ⟨P, 4, none⟩ v4) :=
  (((((h.setCell (p := ⟨P, 0, none⟩) hP v0).setCell (p := ⟨P, 1, none⟩) hP v1).setCell (p := ⟨P, 2, none⟩) hP v2).setCell (p := ⟨P, 3, none⟩) hP v3).setCell (p := ⟨P, 4, none⟩) hP v4)
theorem own_set {w : World} {base size n : Nat} {e : TypeId} {v : Value} {xs : List Value} (h : w.ownsRow base e size v n xs) {P : Nat} (hP : P < base) (j : Nat) (u : Value) : (w.setCell ⟨P, j, none⟩ u).ownsRow base e size v n xs :=
  ownsRow_setCell_below h hP _
theorem own_set5 {w : World} {base size n : Nat} {e : TypeId} {v : Value} {xs : List Value} (h : w.ownsRow base e size v n xs) {P : Nat} (hP : P < base) (v0 v1 v2 v3 v4 : Value) : (((((w.setCell ⟨P, 0, none⟩ v0).setCell ⟨P, 1, none⟩ v1).setCell ⟨P, 2, none⟩ v2).setCell ⟨P, 3, none⟩ v3).setCell ⟨P, 4, none⟩ v4).ownsRow base e size v n xs :=
  own_set (own_set (own_set (own_set (own_set h hP 0 v0) hP 1 v1) hP 2 v2) hP 3 v3) hP 4 v4
theorem Kp.mk {w8 W : World} (h : Below w8.heap.size w8 W) : (∀ b o, b < w8.heap.size → W.cell? ⟨b, o, none⟩ = w8.cell? ⟨b, o, none⟩) ∧ Below w8.heap.size w8 W := ⟨fun b o hb => h.cell (p := ⟨b, o, none⟩) hb, h⟩
theorem Kp.next {w8 W W2 : World} (h : (∀ b o, b < w8.heap.size → W.cell? ⟨b, o, none⟩ = w8.cell? ⟨b, o, none⟩) ∧ Below w8.heap.size w8 W) (hb : Below W.heap.size W W2) :
    (∀ b o, b < w8.heap.size → W2.cell? ⟨b, o, none⟩ = w8.cell? ⟨b, o, none⟩) ∧ Below w8.heap.size w8 W2 := Kp.mk (h.2.trans (hb.mono h.2.size))
/-- pages of the call's own -/
def PC (R W : List Int) (Ac Pe : Int) (ch : List (Int × Int)) (w : World) (r : Ending) (w' : World) : Prop :=
  ∃ v1 v2 v3 B2 B3, r = .returned (.agg #[v1, v2, .int .i64 Ac, .int .i64 Pe, v3]) ∧ w.heap.size ≤ B2 ∧ B2 ≤ B3 ∧ Own w' w.heap.size v1 R ∧ (∀ g, v1.ownBlock = some g → g < B2) ∧ Own w' B2 v2 W ∧ (∀ g, v2.ownBlock = some g → g < B3) ∧ OwC w' B3 v3 ch ∧ B3 ≤ w'.heap.size ∧ Below w.heap.size w w'
end Go.Proofs.Ytamajedopofcoaa
