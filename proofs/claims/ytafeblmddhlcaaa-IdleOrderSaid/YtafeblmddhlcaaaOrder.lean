/-
  The walk of the law IdleOrder: it answers true whichever of both speeds is the lower one.
-/
import Derived.Test.YtafeblmddhlcaaaStep
set_option linter.unusedVariables false
namespace Go.Proofs.Ytafeblmddhlcaaa.idleOrder
open Go.RowKit
theorem tgt_anti {a b : Int} (h : a ≤ b) : tgt b ≤ tgt a := by
  unfold tgt
  by_cases h1 : a ≤ -20
  · rw [if_pos h1]; split
    · omega
    · split <;> omega
  · rw [if_neg h1, if_neg (show ¬ b ≤ -20 by omega)]
    by_cases h2 : 70 ≤ a
    · rw [if_pos h2, if_pos (show 70 ≤ b by omega)]; omega
    · rw [if_neg h2]; split <;> omega
/-- of two steps with one state the one with the lower speed asks for at least as much -/
theorem order (P I L H S t a b : Int) (h : a ≤ b) (ha : stE P I L H S t a = 0) (hb : stE P I L H S t b = 0) :
    stU P I L H S t b ≤ stU P I L H S t a ∧ L ≤ stU P I L H S t a ∧ stU P I L H S t a ≤ H := by
  have hg : gainB P I L H = true := by
    cases hg : gainB P I L H
    · simp [stE, hg] at ha
    · rfl
  obtain ⟨p0, p1, i0, i1, l0, l1, l2⟩ := gain_facts hg
  unfold stU
  rw [if_pos ha, if_pos hb]
  have hm : P * (t - b) ≤ P * (t - a) := Int.mul_le_mul_of_nonneg_left (by omega) p0
  unfold ctlU clamp
  generalize P * (t - b) = x at *
  generalize P * (t - a) = y at *
  omega
set_option maxHeartbeats 4000000 in
theorem core (P I L H S t lo hi a b cold warm : Int) (w : World) (hlo : lo ≤ hi) (hab : (a < b ∧ lo = a ∧ hi = b) ∨ (b < a ∧ lo = b ∧ hi = a) ∨ (a = b ∧ lo = b ∧ hi = b)) : Calls Try.prog 5 #[.agg #[.int .i64 S], .agg #[.int .i64 P, .int .i64 I, .int .i64 L, .int .i64 H], .int .i64 t, .int .i64 a, .int .i64 b, .int .i64 cold, .int .i64 warm] w fun r w' => r = .returned (.bool true) ∧ Below w.heap.size w w' := by
  have A := Lib.hid (fun w => step15 P I L H S t lo w)
  have B := Lib.hid (fun w => step15 P I L H S t hi w)
  have O := order P I L H S t lo hi hlo
  obtain ⟨t0, t1⟩ := tgt_bd cold
  obtain ⟨t2, t3⟩ := tgt_bd warm
  have T := tgt_anti (a := cold) (b := warm)
  obtain ⟨x, hx⟩ : ∃ x, x = tgt cold := ⟨_, rfl⟩
  obtain ⟨y, hy⟩ : ∃ y, y = tgt warm := ⟨_, rfl⟩
  have T1 := Lib.hid (fun w => target11 cold w)
  have T2 := Lib.hid (fun w => target11 warm w)
  rw [← hx] at t0 t1 T T1
  rw [← hy] at t2 t3 T T2
  clear hx hy
  obtain ⟨X, hX⟩ : ∃ X, X = stS P I L H S t lo := ⟨_, rfl⟩
  obtain ⟨Y, hY⟩ : ∃ Y, Y = stU P I L H S t lo := ⟨_, rfl⟩
  obtain ⟨Z, hZ⟩ : ∃ Z, Z = stE P I L H S t lo := ⟨_, rfl⟩
  obtain ⟨X', hX'⟩ : ∃ X, X = stS P I L H S t hi := ⟨_, rfl⟩
  obtain ⟨Y', hY'⟩ : ∃ Y, Y = stU P I L H S t hi := ⟨_, rfl⟩
  obtain ⟨Z', hZ'⟩ : ∃ Z, Z = stE P I L H S t hi := ⟨_, rfl⟩
  rw [← hX, ← hY, ← hZ] at A
  rw [← hX', ← hY', ← hZ'] at B
  rw [← hY, ← hY', ← hZ, ← hZ'] at O
  clear hX hY hZ hX' hY' hZ'
  have key : ((Z != 0) = true) ∨ (Z = 0 ∧ (Z' != 0) = true) ∨ (Z = 0 ∧ Z' = 0 ∧ Y' ≤ Y ∧ L ≤ Y ∧ Y ≤ H) := by
    by_cases z : Z = 0
    · by_cases z' : Z' = 0
      · exact .inr (.inr ⟨z, z', O z z'⟩)
      · exact .inr (.inl ⟨z, by simp [z']⟩)
    · exact .inl (by simp [z])
  clear O
  have hT : cold ≤ warm ∧ y ≤ x ∨ warm < cold := by
    by_cases h : cold ≤ warm
    · exact .inl ⟨h, T h⟩
    · exact .inr (by omega)
  clear T
  rcases hab with ⟨h1, rfl, rfl⟩ | ⟨h1, rfl, rfl⟩ | ⟨rfl, rfl, rfl⟩ <;> rcases hT with ⟨hT, hT'⟩ | hT <;> rcases key with k | ⟨rfl, k⟩ | ⟨rfl, rfl, k, k1, k2⟩
  all_goals
    go_enter Try.func5, Try.ntmps5
    go_wp2_with fail
    refine (awake8 _).mono ?_
    rintro r w1 ⟨rfl, rfl⟩
    go_wp2_with fail
    refine (T1.out _).mono ?_
    rintro r w1 ⟨rfl, rfl⟩
    go_wp2_with fail
    refine (T2.out _).mono ?_
    rintro r w1 ⟨rfl, rfl⟩
    go_wp2_with fail
    refine (A.out _).mono ?_
    rintro r w1 ⟨rfl, hb1⟩
    have hg1 := chain (w := w) (by go_grown) hb1
    obtain ⟨hc1, hf1⟩ := bcell hb1
    have hz1 := hb1.size
    simp at hz1
    have q0 : w1.cell? ⟨w.heap.size, 0, none⟩ = some (.int .i64 S) := (hc1 _ _ (by simp; omega)).trans (by go_cell)
    have q1 : w1.cell? ⟨w.heap.size + 1, 0, none⟩ = some (.int .i64 P) := (hc1 _ _ (by simp)).trans (by go_cell)
    have q2 : w1.cell? ⟨w.heap.size + 1, 1, none⟩ = some (.int .i64 I) := (hc1 _ _ (by simp)).trans (by go_cell)
    have q3 : w1.cell? ⟨w.heap.size + 1, 2, none⟩ = some (.int .i64 L) := (hc1 _ _ (by simp)).trans (by go_cell)
    have q4 : w1.cell? ⟨w.heap.size + 1, 3, none⟩ = some (.int .i64 H) := (hc1 _ _ (by simp)).trans (by go_cell)
    have z0 : w.heap.size < w1.heap.size := by omega
    have z1 : w.heap.size + 1 < w1.heap.size := by omega
    clear hc1 hf1 hb1
    go_wp2_with fail
    refine (B.out _).mono ?_
    rintro r w2 ⟨rfl, hb2⟩
    have hg2 := chain (w := w) (by go_grown) hb2
    obtain ⟨hc2, hf2⟩ := bcell hb2
    have hz2 := hb2.size
    simp at hz2
    have u3 : w2.cell? ⟨w.heap.size + 1, 2, none⟩ = some (.int .i64 L) := (hc2 _ _ (by simp; omega)).trans (by go_cell)
    have u4 : w2.cell? ⟨w.heap.size + 1, 3, none⟩ = some (.int .i64 H) := (hc2 _ _ (by simp; omega)).trans (by go_cell)
    have z2 : w1.heap.size < w2.heap.size := by omega
    have z3 : w.heap.size + 1 < w2.heap.size := by omega
    clear hc2 hf2 hb2
    go_wp2
    go_ret
    exact ⟨rfl, by go_grown⟩
end Go.Proofs.Ytafeblmddhlcaaa.idleOrder
