/-
  The contract of the reference of filter.Control, for valid gains, a sum and an error in their ranges.
-/
import Derived.Test.YtafeblmddhlcaaaCtlA
set_option linter.unusedVariables false
namespace Go.Proofs.Ytafeblmddhlcaaa
open Go.RowKit
theorem ret_ai {a b a' b' : Int} (h : a = a') (g : b = b') : Ending.returned (.tuple #[.agg #[.int .i64 a], .int .i64 b]) = .returned (.tuple #[.agg #[.int .i64 a'], .int .i64 b']) := by rw [h, g]
theorem ret_aii {a b c a' b' c' : Int} (h : a = a') (g : b = b') (k : c = c') : Ending.returned (.tuple #[.agg #[.int .i64 a], .int .i64 b, .int .i64 c]) = .returned (.tuple #[.agg #[.int .i64 a'], .int .i64 b', .int .i64 c']) := by rw [h, g, k]
set_option maxHeartbeats 1000000 in
theorem control28 (P I L H S e : Int) (w : World) (h1 : gainB P I L H = true) (h2 : -4398046511104 ≤ S) (h3 : S ≤ 4398046511104) (h4 : -1048576 ≤ e) (h5 : e ≤ 1048576) : Calls Try.prog 28 #[.agg #[.int .i64 S], .agg #[.int .i64 P, .int .i64 I, .int .i64 L, .int .i64 H], .int .i64 e] w fun r w' => r = .returned (.tuple #[.agg #[.int .i64 (ctlS P I L H S e)], .int .i64 (clamp (ctlU P S e) L H)]) ∧ Below w.heap.size w w' := by
  obtain ⟨p0, p1, i0, i1, l0, l1, l2⟩ := gain_facts h1
  obtain ⟨m0, m1⟩ := mul_facts p0 p1 h4 h5
  obtain ⟨n0, n1⟩ := mul_facts i0 i1 h4 h5
  clear h1
  obtain ⟨m, hm⟩ : ∃ m, P * e = m := ⟨_, rfl⟩
  obtain ⟨n, hn⟩ : ∃ n, I * e = n := ⟨_, rfl⟩
  unfold ctlS ctlU
  rw [hm] at m0 m1 ⊢
  rw [hn] at n0 n1 ⊢
  have hu : -9000000000 ≤ (m + S) / 1024 ∧ (m + S) / 1024 ≤ 9000000000 := by omega
  obtain ⟨u, hu'⟩ : ∃ u, (m + S) / 1024 = u := ⟨_, rfl⟩
  rw [hu'] at hu ⊢
  obtain ⟨T, hT⟩ : ∃ T, T = if (u ≤ H ∨ e ≤ 0) ∧ (L ≤ u ∨ 0 ≤ e) then clamp (S + n) (-4398046511104) 4398046511104 else S := ⟨_, rfl⟩
  rw [← hT]
  obtain ⟨C, hC⟩ : ∃ C, C = clamp u L H := ⟨_, rfl⟩
  rw [← hC]
  have HC : Hid _ := Lib.hid hC
  have HT : Hid _ := Lib.hid hT
  clear hC hT
  go_enter Try.func28, Try.ntmps28
  go_wp2_with fail
  refine (floor23w _ _ _ (by omega) (by omega) (by omega) (by omega)).mono ?_
  rintro r w1 ⟨rfl, hb1⟩
  rw [hu']
  have hg1 := chain (w := w) (by go_grown) hb1
  obtain ⟨hc1, hf1⟩ := bcell hb1
  have hz1 := hb1.size
  simp at hz1
  have q0 : w1.cell? ⟨w.heap.size, 0, none⟩ = some (.int .i64 S) := (hc1 _ _ (by simp; omega)).trans (by go_cell)
  have q1 : w1.cell? ⟨w.heap.size + 1, 0, none⟩ = some (.int .i64 P) := (hc1 _ _ (by simp)).trans (by go_cell)
  have q2 : w1.cell? ⟨w.heap.size + 1, 1, none⟩ = some (.int .i64 I) := (hc1 _ _ (by simp)).trans (by go_cell)
  have q3 : w1.cell? ⟨w.heap.size + 1, 2, none⟩ = some (.int .i64 L) := (hc1 _ _ (by simp)).trans (by go_cell)
  have q4 : w1.cell? ⟨w.heap.size + 1, 3, none⟩ = some (.int .i64 H) := (hc1 _ _ (by simp)).trans (by go_cell)
  have q5 : w1.cell? ⟨w.heap.size + 1 + 1, 0, none⟩ = some (.int .i64 0) := (hc1 _ _ (by simp)).trans (by go_cell)
  have f0 : w1.frozen? ⟨w.heap.size, 0, none⟩ = false := (hf1 _ _ (by simp; omega)).trans (by simp [go_sem])
  have f5 : w1.frozen? ⟨w.heap.size + 1 + 1, 0, none⟩ = false := (hf1 _ _ (by simp)).trans (by simp [go_sem])
  have hz : w.heap.size + 1 + 1 < w1.heap.size := by omega
  clear hc1 hf1 hb1 hm hu' m0 m1 i0 i1 p0 p1
  go_wp2
  all_goals
    refine bodyPost_ret (v := .tuple #[.agg #[.int .i64 _], .int .i64 _]) (by simp [results, Try.results28, go_sem, q5, hz] <;> first | rfl | exact ⟨rfl, rfl⟩) rfl ⟨ret_ai ?_ ?_, ?_⟩
    · rw [HT.out]
      try simp only [Bool.not_eq_true', decide_eq_false_iff_not, Bool.not_eq_false', decide_eq_true_eq] at *
      unfold clamp
      split <;> omega
    · rw [HC.out]
      unfold clamp
      omega
    · go_grown
end Go.Proofs.Ytafeblmddhlcaaa
