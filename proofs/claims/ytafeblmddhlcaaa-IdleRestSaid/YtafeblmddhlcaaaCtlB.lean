/-
  The contract of filter.Control where it answers a state and an output.
-/
import Derived.Test.YtafeblmddhlcaaaCtlA
import Derived.StillTailTactics
import Derived.BigQuiet
set_option linter.unusedVariables false
namespace Go.Proofs.Ytafeblmddhlcaaa
open Go.RowKit
set_option maxHeartbeats 1000000 in
theorem control25_ok (P I L H S e : Int) (w : World) (hb : ctlBad P I L H S e = 0) : Calls Try.prog 25 #[.agg #[.int .i64 S], .agg #[.int .i64 P, .int .i64 I, .int .i64 L, .int .i64 H], .int .i64 e] w fun r w' => r = .returned (.tuple #[.agg #[.int .i64 (ctlS P I L H S e)], .int .i64 (clamp (ctlU P S e) L H), .int .i64 0]) ∧ Below w.heap.size w w' := by
  have key : gainB P I L H = true ∧ -4398046511104 ≤ S ∧ S ≤ 4398046511104 ∧ -1048576 ≤ e ∧ e ≤ 1048576 := by
    unfold ctlBad at hb
    by_cases h1 : gainB P I L H = false ∨ S < -4398046511104 ∨ 4398046511104 < S
    · rw [if_pos h1] at hb; omega
    · rw [if_neg h1] at hb
      by_cases h2 : e < -1048576 ∨ 1048576 < e
      · rw [if_pos h2] at hb; omega
      · simp at h1; exact ⟨h1.1, by omega, by omega, by omega, by omega⟩
  obtain ⟨h1, h2, h3, h4, h5⟩ := key
  obtain ⟨p0, p1, i0, i1, l0, l1, l2⟩ := gain_facts h1
  obtain ⟨m0, m1⟩ := mul_facts p0 p1 h4 h5
  obtain ⟨n0, n1⟩ := mul_facts i0 i1 h4 h5
  clear hb
  obtain ⟨m, hm⟩ : ∃ m, P * e = m := ⟨_, rfl⟩
  obtain ⟨n, hn⟩ : ∃ n, I * e = n := ⟨_, rfl⟩
  unfold ctlS ctlU
  rw [hm] at m0 m1 ⊢
  rw [hn] at n0 n1 ⊢
  go_enter Try.func25, Try.ntmps25
  go_wp2_with fail
  refine (gain24 _ _ _ _ _).mono ?_
  rintro r w1 ⟨rfl, hb1⟩
  have hg1 := chain (w := w) (by go_grown) hb1
  obtain ⟨hc1, hf1⟩ := bcell hb1
  have hz1 := hb1.size
  simp at hz1
  have q0 : w1.cell? ⟨w.heap.size, 0, none⟩ = some (.int .i64 S) := (hc1 _ _ (by simp; omega)).trans (by go_cell)
  have q1 : w1.cell? ⟨w.heap.size + 1, 0, none⟩ = some (.int .i64 P) := (hc1 _ _ (by simp)).trans (by go_cell)
  have q2 : w1.cell? ⟨w.heap.size + 1, 1, none⟩ = some (.int .i64 I) := (hc1 _ _ (by simp)).trans (by go_cell)
  have q3 : w1.cell? ⟨w.heap.size + 1, 2, none⟩ = some (.int .i64 L) := (hc1 _ _ (by simp)).trans (by go_cell)
  have q4 : w1.cell? ⟨w.heap.size + 1, 3, none⟩ = some (.int .i64 H) := (hc1 _ _ (by simp)).trans (by go_cell)
  have q5 : w1.cell? ⟨w.heap.size + 1 + 1, 0, none⟩ = some (.int .i64 0) := (hc1 _ _ (by simp)).trans (by go_cell)
  have f0 : w1.frozen? ⟨w.heap.size, 0, none⟩ = false := (hf1 _ _ (by simp; omega)).trans (by simp [go_sem])
  have f5 : w1.frozen? ⟨w.heap.size + 1 + 1, 0, none⟩ = false := (hf1 _ _ (by simp)).trans (by simp [go_sem])
  clear hc1 hf1 hb1
  go_wp2_with (go_at_call 30; refine (clamp30 _ _ _ _).mono ?_; rintro r w2 ⟨rfl, rfl⟩)
  all_goals
    refine wp_region_still_tail 7 (by kernel_rfl) (by kernel_rfl) ?_
    change wpStill _ _ (World.drew _) _ _ _
    simp only [List.take_succ_cons, List.take_zero, List.drop_succ_cons, List.drop_zero]
    iterate 6 still_step
    still_call ((clamp30 _ _ _ _).mono fun _ _ h => ⟨h.1, h.2.symm⟩)
    refine wpStill_nil ?_
    change wpList _ _ _ _ _ (World.drew _)
    go_wp2
  all_goals
    have hz : w.heap.size + 1 + 1 < w1.heap.size := by omega
    refine bodyPost_ret (v := .tuple #[.agg #[.int .i64 _], .int .i64 _, .int .i64 0]) (by simp [results, Try.results25, go_sem, q5, hz]) rfl ⟨rfl, ?_⟩
    go_grown
end Go.Proofs.Ytafeblmddhlcaaa
