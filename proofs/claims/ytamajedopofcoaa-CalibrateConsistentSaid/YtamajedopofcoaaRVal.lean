/-
  The contract of the reference's Valid. No condition but the slices' shape.
-/
import Derived.Test.YtamajedopofcoaaVal
set_option linter.unusedVariables false
set_option linter.unusedSimpArgs false
namespace Go.Proofs.Ytamajedopofcoaa
open Go.RowKit
set_option maxRecDepth 100000 in
set_option maxHeartbeats 16000000 in
theorem rvalid12 (A : Option Addr) (n c : Nat) (A2 : Option Addr) (n2 c2 : Nat) (Ac Pe : Int) (A3 : Option Addr) (m c3 : Nat) (R W : List Int) (ch : List (Int × Int)) (w : World) (hl : R.length = n) (hb : Ik .i64 w A R) (hc : n ≤ c) (hl2 : W.length = n2) (hb2 : Ik .i64 w A2 W) (hc2 : n2 ≤ c2) (hl3 : ch.length = m) (hb3 : Ik .i64 w A3 (flat ch)) (hc3 : m ≤ c3) (hs : n ≤ 5000) (hs2 : n2 ≤ 5000) (hs3 : m ≤ 5000) : Calls Try.prog 12 #[.agg #[.slice A n c, .slice A2 n2 c2, .int .i64 Ac, .int .i64 Pe, .slice A3 m c3]] w fun r w' => r = .returned (.bool (vP R W Ac Pe ch)) ∧ Below w.heap.size w w' := by
  by_cases g0 : 1 ≤ n
  rotate_left 1
  · rw [show vP R W Ac Pe ch = false from by unfold vP listB; rw [hl, decide_eq_false g0]; simp]
    have d0 : decide ((n : Int) < 1) = true := by simp; omega
    clear hl hl2 hl3 hb hb2 hb3 g0
    go_enter Try.func12, Try.ntmps12
    go_wp2
    go_ret; exact ⟨rfl, by go_grown⟩
  by_cases g1 : n ≤ 1000
  rotate_left 1
  · rw [show vP R W Ac Pe ch = false from by unfold vP listB; rw [hl, decide_eq_false g1]; simp]
    have d0 : decide ((n : Int) < 1) = false := by simp; omega
    have d1 : decide (1000 < (n : Int)) = true := by simp; omega
    clear hl hl2 hl3 hb hb2 hb3 g0 g1
    go_enter Try.func12, Try.ntmps12
    go_wp2
    go_ret; exact ⟨rfl, by go_grown⟩
  by_cases g2 : n2 = n
  rotate_left 1
  · rw [show vP R W Ac Pe ch = false from by unfold vP; rw [hl2, hl, decide_eq_false g2]; simp]
    have d0 : decide ((n : Int) < 1) = false := by simp; omega
    have d1 : decide (1000 < (n : Int)) = false := by simp; omega
    have e2 : ((n2 : Int) == (n : Int)) = false := by simp; omega
    have e2d : decide ((n2 : Int) = (n : Int)) = false := by simp; omega
    have e2n : ((n2 : Int) != (n : Int)) = true := by simp; omega
    clear hl hl2 hl3 hb hb2 hb3 g0 g1 g2
    go_enter Try.func12, Try.ntmps12
    go_wp2
    go_ret; exact ⟨rfl, by go_grown⟩
  by_cases g3 : 0 ≤ Ac
  rotate_left 1
  · rw [show vP R W Ac Pe ch = false from by unfold vP; rw [decide_eq_false (show ¬ Ac = 0 by omega), decide_eq_false (show ¬ Ac = 1 by omega)]; simp]
    have d0 : decide ((n : Int) < 1) = false := by simp; omega
    have d1 : decide (1000 < (n : Int)) = false := by simp; omega
    have e2 : ((n2 : Int) == (n : Int)) = true := by simp; omega
    have e2d : decide ((n2 : Int) = (n : Int)) = true := by simp; omega
    have e2n : ((n2 : Int) != (n : Int)) = false := by simp; omega
    have d3 : decide (Ac < 0) = true := by simp; omega
    clear hl hl2 hl3 hb hb2 hb3 g0 g1 g2 g3
    go_enter Try.func12, Try.ntmps12
    go_wp2
    go_ret; exact ⟨rfl, by go_grown⟩
  by_cases g4 : Ac ≤ 1
  rotate_left 1
  · rw [show vP R W Ac Pe ch = false from by unfold vP; rw [decide_eq_false (show ¬ Ac = 0 by omega), decide_eq_false (show ¬ Ac = 1 by omega)]; simp]
    have d0 : decide ((n : Int) < 1) = false := by simp; omega
    have d1 : decide (1000 < (n : Int)) = false := by simp; omega
    have e2 : ((n2 : Int) == (n : Int)) = true := by simp; omega
    have e2d : decide ((n2 : Int) = (n : Int)) = true := by simp; omega
    have e2n : ((n2 : Int) != (n : Int)) = false := by simp; omega
    have d3 : decide (Ac < 0) = false := by simp; omega
    have d4 : decide (1 < Ac) = true := by simp; omega
    clear hl hl2 hl3 hb hb2 hb3 g0 g1 g2 g3 g4
    go_enter Try.func12, Try.ntmps12
    go_wp2
    go_ret; exact ⟨rfl, by go_grown⟩
  by_cases g5 : -1 ≤ Pe
  rotate_left 1
  · rw [show vP R W Ac Pe ch = false from by unfold vP; rw [decide_eq_false g5]; simp]
    have d0 : decide ((n : Int) < 1) = false := by simp; omega
    have d1 : decide (1000 < (n : Int)) = false := by simp; omega
    have e2 : ((n2 : Int) == (n : Int)) = true := by simp; omega
    have e2d : decide ((n2 : Int) = (n : Int)) = true := by simp; omega
    have e2n : ((n2 : Int) != (n : Int)) = false := by simp; omega
    have d3 : decide (Ac < 0) = false := by simp; omega
    have d4 : decide (1 < Ac) = false := by simp; omega
    have d5 : decide (Pe < -1) = true := by simp; omega
    clear hl hl2 hl3 hb hb2 hb3 g0 g1 g2 g3 g4 g5
    go_enter Try.func12, Try.ntmps12
    go_wp2
    go_ret; exact ⟨rfl, by go_grown⟩
  by_cases g6 : Pe ≤ 1
  rotate_left 1
  · rw [show vP R W Ac Pe ch = false from by unfold vP; rw [decide_eq_false g6]; simp]
    have d0 : decide ((n : Int) < 1) = false := by simp; omega
    have d1 : decide (1000 < (n : Int)) = false := by simp; omega
    have e2 : ((n2 : Int) == (n : Int)) = true := by simp; omega
    have e2d : decide ((n2 : Int) = (n : Int)) = true := by simp; omega
    have e2n : ((n2 : Int) != (n : Int)) = false := by simp; omega
    have d3 : decide (Ac < 0) = false := by simp; omega
    have d4 : decide (1 < Ac) = false := by simp; omega
    have d5 : decide (Pe < -1) = false := by simp; omega
    have d6 : decide (1 < Pe) = true := by simp; omega
    clear hl hl2 hl3 hb hb2 hb3 g0 g1 g2 g3 g4 g5 g6
    go_enter Try.func12, Try.ntmps12
    go_wp2
    go_ret; exact ⟨rfl, by go_grown⟩
  by_cases g7 : m ≤ 100
  rotate_left 1
  · rw [show vP R W Ac Pe ch = false from by unfold vP; rw [hl3, decide_eq_false g7]; simp]
    have d0 : decide ((n : Int) < 1) = false := by simp; omega
    have d1 : decide (1000 < (n : Int)) = false := by simp; omega
    have e2 : ((n2 : Int) == (n : Int)) = true := by simp; omega
    have e2d : decide ((n2 : Int) = (n : Int)) = true := by simp; omega
    have e2n : ((n2 : Int) != (n : Int)) = false := by simp; omega
    have d3 : decide (Ac < 0) = false := by simp; omega
    have d4 : decide (1 < Ac) = false := by simp; omega
    have d5 : decide (Pe < -1) = false := by simp; omega
    have d6 : decide (1 < Pe) = false := by simp; omega
    have d7 : decide (100 < (m : Int)) = true := by simp; omega
    clear hl hl2 hl3 hb hb2 hb3 g0 g1 g2 g3 g4 g5 g6 g7
    go_enter Try.func12, Try.ntmps12
    go_wp2
    go_ret; exact ⟨rfl, by go_grown⟩
  have eV : vP R W Ac Pe ch = (allP R && allP W && allC n ch) := by
    unfold vP listB
    rw [hl2, hl, hl3, decide_eq_true g0, decide_eq_true g1, decide_eq_true g2, decide_eq_true g5, decide_eq_true g6, decide_eq_true g7, decide_eq_true (show 1 ≤ n2 by omega), decide_eq_true (show n2 ≤ 1000 by omega)]
    rcases (by omega : Ac = 0 ∨ Ac = 1) with h | h <;> simp [h]
  rw [eV]
  have d0 : decide ((n : Int) < 1) = false := by simp; omega
  have d1 : decide (1000 < (n : Int)) = false := by simp; omega
  have e2 : ((n2 : Int) == (n : Int)) = true := by simp; omega
  have e2d : decide ((n2 : Int) = (n : Int)) = true := by simp; omega
  have e2n : ((n2 : Int) != (n : Int)) = false := by simp; omega
  have d3 : decide (Ac < 0) = false := by simp; omega
  have d4 : decide (1 < Ac) = false := by simp; omega
  have d5 : decide (Pe < -1) = false := by simp; omega
  have d6 : decide (1 < Pe) = false := by simp; omega
  have d7 : decide (100 < (m : Int)) = false := by simp; omega
  subst g2
  have HL := Lib.hid hl
  have HL2 := Lib.hid hl2
  have HL3 := Lib.hid hl3
  have HB := Lib.hid hb
  have HB2 := Lib.hid hb2
  have HB3 := Lib.hid hb3
  obtain ⟨b, o, rfl, hbl⟩ := hb.addr (by omega)
  obtain ⟨b2, o2, rfl, hbl2⟩ := hb2.addr (by omega)
  have al : Below w.heap.size w (w.alloc (.cells #[.slice (some ⟨b, o, none⟩) n2 c, .slice (some ⟨b2, o2, none⟩) n2 c2, .int .i64 Ac, .int .i64 Pe, .slice A3 m c3] 25)) := (Below.refl _ _).alloc (Nat.le_refl _) _
  have HAL := Lib.hid al
  clear hl hl2 hl3 hb hb2 hb3 eV al
  go_enter Try.func12, Try.ntmps12
  go_upto_region 5 with fail
  go_loopg [4] n2 (fun gk v wr => ∃ i : Nat, i ≤ n2 ∧ n2 - i ≤ gk ∧ v = .int .i64 i ∧ Hid (∀ j, j < i → parB (R.getD j 0) = true ∧ parB (W.getD j 0) = true) ∧ wr = w.alloc (.cells #[.slice (some ⟨b, o, none⟩) n2 c, .slice (some ⟨b2, o2, none⟩) n2 c2, .int .i64 Ac, .int .i64 Pe, .slice A3 m c3] 25))
  case atStart => exact ⟨0, by omega, by omega, rfl, Lib.hid (fun j h => by omega), rfl⟩
  case round =>
    obtain ⟨i, hi, hgk, rfl, HA, rfl⟩ := hrel
    by_cases hlt : i < n2
    · have q1 := ((HB.out.below HAL.out).at i (by rw [HL.out]; exact hlt)).1
      have q2 := ((HB2.out.below HAL.out).at i (by rw [HL2.out]; exact hlt)).1
      obtain ⟨x, hx⟩ : ∃ x, x = R.getD i 0 := ⟨_, rfl⟩
      obtain ⟨y, hy⟩ : ∃ y, y = W.getD i 0 := ⟨_, rfl⟩
      rw [← hx] at q1
      rw [← hy] at q2
      have K := fun w => param35 x w
      have K2 := fun w => param35 y w
      have HX := Lib.hid hx
      have HY := Lib.hid hy
      clear hx hy
      cases hp : parB x
      · rw [hp] at K
        replace K := Lib.hid K
        have HP := Lib.hid hp
        clear hp K2
        go_wp2_with fail
        refine (K.out _).mono ?_
        rintro r w1 ⟨rfl, rfl⟩
        go_wp2
        go_ret
        exact ⟨by rw [allP_f (i := i) (by rw [HL.out]; exact hlt) (by rw [← HX.out]; exact HP.out)]; rfl, HAL.out⟩
      · rw [hp] at K
        replace K := Lib.hid K
        have HP := Lib.hid hp
        clear hp
        cases hp2 : parB y
        · rw [hp2] at K2
          replace K2 := Lib.hid K2
          have HP2 := Lib.hid hp2
          clear hp2
          go_wp2_with fail
          refine (K.out _).mono ?_
          rintro r w1 ⟨rfl, rfl⟩
          go_wp2_with fail
          refine (K2.out _).mono ?_
          rintro r w1 ⟨rfl, rfl⟩
          go_wp2
          go_ret
          exact ⟨by rw [allP_f (l := W) (i := i) (by rw [HL2.out]; exact hlt) (by rw [← HY.out]; exact HP2.out)]; simp, HAL.out⟩
        · rw [hp2] at K2
          replace K2 := Lib.hid K2
          have HP2 := Lib.hid hp2
          clear hp2
          go_wp2_with fail
          refine (K.out _).mono ?_
          rintro r w1 ⟨rfl, rfl⟩
          go_wp2_with fail
          refine (K2.out _).mono ?_
          rintro r w1 ⟨rfl, rfl⟩
          go_wp2_with fail
          go_roundg (n2 - (i + 1))
          case measure => omega
          case rel =>
            refine ⟨i + 1, by omega, by omega, by go_num, Lib.hid (fun j h => ?_), rfl⟩
            by_cases hj : j = i
            · rw [hj, ← HX.out, ← HY.out]; exact ⟨HP.out, HP2.out⟩
            · exact HA.out j (by omega)
    · obtain rfl : i = n2 := by omega
      have hR : allP R = true := allP_t (fun j h => (HA.out j (by rw [HL.out] at h; exact h)).1)
      have hW : allP W = true := allP_t (fun j h => (HA.out j (by rw [HL2.out] at h; exact h)).2)
      have HR := Lib.hid hR
      have HW := Lib.hid hW
      clear hR hW HA
      go_upto_region 10 with fail
      go_loopg [5] m (fun gk v wr => ∃ k : Nat, k ≤ m ∧ m - k ≤ gk ∧ v = .int .i64 k ∧ Hid (∀ j p, j < k → ch[j]? = some p → chB i p = true) ∧ wr = w.alloc (.cells #[.slice (some ⟨b, o, none⟩) i c, .slice (some ⟨b2, o2, none⟩) i c2, .int .i64 Ac, .int .i64 Pe, .slice A3 m c3] 25))
      case atStart => exact ⟨0, by omega, by omega, rfl, Lib.hid (fun j p h => by omega), rfl⟩
      case round =>
        obtain ⟨k, hk, hgk2, rfl, HA, rfl⟩ := hrel
        by_cases hkl : k < m
        · obtain ⟨b3, o3, rfl, hbl3⟩ := HB3.out.addr (by rw [flat_len, HL3.out]; omega)
          have hip : k < ch.length := by rw [HL3.out]; exact hkl
          obtain ⟨p, hp⟩ : ∃ p, ch[k]? = some p := ⟨_, List.getElem?_eq_getElem hip⟩
          obtain ⟨u1, u2⟩ := flat_get ch k p hp
          obtain ⟨x, y⟩ := p
          obtain ⟨b', o', e', _, hcell⟩ := (HB3.out.below HAL.out) (by rw [flat_len]; omega)
          injection e' with e'; injection e' with e1 e2'
          subst e1; subst e2'
          have q1 := hcell _ _ u1
          have q2 := hcell _ _ u2
          rw [← Nat.add_assoc] at q2
          simp only at q1 q2
          have K := fun w => param35 y w
          have HP := Lib.hid hp
          clear hcell u1 u2 hp hip
          by_cases hx0 : x < 0
          · have t0 : decide (x < 0) = true := by simp [hx0]
            have hf : allC i ch = false := allC_f HP.out (by unfold chB; rw [decide_eq_false (by omega)]; rfl)
            have HF := Lib.hid hf
            clear hf hx0
            go_wp2
            go_ret
            exact ⟨by rw [HR.out, HW.out, HF.out]; rfl, HAL.out⟩
          have t0 : decide (x < 0) = false := by simp; omega
          by_cases hx1 : x < i
          rotate_left 1
          · have t1 : decide ((i : Int) ≤ x) = true := by simp; omega
            have hf : allC i ch = false := allC_f HP.out (by unfold chB; rw [decide_eq_false hx1]; simp)
            have HF := Lib.hid hf
            clear hf hx0 hx1
            go_wp2
            go_ret
            exact ⟨by rw [HR.out, HW.out, HF.out]; rfl, HAL.out⟩
          have t1 : decide ((i : Int) ≤ x) = false := by simp; omega
          cases hpy : parB y
          · rw [hpy] at K
            replace K := Lib.hid K
            have hf : allC i ch = false := allC_f HP.out (by unfold chB; simp [hpy])
            have HF := Lib.hid hf
            clear hf hpy hx0 hx1
            go_wp2_with fail
            refine (K.out _).mono ?_
            rintro r w1 ⟨rfl, rfl⟩
            go_wp2
            go_ret
            exact ⟨by rw [HR.out, HW.out, HF.out]; rfl, HAL.out⟩
          · rw [hpy] at K
            replace K := Lib.hid K
            have HC := Lib.hid (show chB i (x, y) = true by unfold chB; simp [hpy]; omega)
            clear hpy hx0 hx1
            go_wp2_with fail
            refine (K.out _).mono ?_
            rintro r w1 ⟨rfl, rfl⟩
            go_wp2_with fail
            go_roundg (m - (k + 1))
            case measure => omega
            case rel =>
              refine ⟨k + 1, by omega, by omega, by go_num, Lib.hid (fun j p h hj => ?_), rfl⟩
              by_cases hjk : j = k
              · subst hjk
                rw [HP.out] at hj
                obtain rfl := Option.some.inj hj
                exact HC.out
              · exact HA.out j p (by omega) hj
        · obtain rfl : k = m := by omega
          have HF := Lib.hid (allC_t (n := i) (ch := ch) (fun j p hj => HA.out j p (by have := (List.getElem?_eq_some_iff.1 hj).1; rw [HL3.out] at this; exact this) hj))
          go_wp2
          go_ret
          exact ⟨by rw [HR.out, HW.out, HF.out]; rfl, HAL.out⟩
end Go.Proofs.Ytamajedopofcoaa
