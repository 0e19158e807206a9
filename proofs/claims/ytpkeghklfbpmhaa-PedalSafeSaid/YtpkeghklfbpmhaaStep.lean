/-
  The contract of pedal.Step at a valid state.
-/
import Derived.Test.YtpkeghklfbpmhaaBase
set_option linter.unusedVariables false
namespace Go.Proofs.Ytpkeghklfbpmhaa
open Go.RowKit
set_option maxHeartbeats 1600000 in
theorem step7_ok (V D x y : Int) (F : Bool) (w : World) (hv : validB V D F = true) : Calls Try.prog 7 #[.agg #[.int .i64 V, .int .i64 D, .bool F], .int .i64 x, .int .i64 y] w fun e w' => e = .returned (.tuple #[.agg #[.int .i64 (nxV V D x y), .int .i64 (nxD D x y), .bool (nxD D x y == 3)], .int .i64 0]) ∧ Below w.heap.size w w' := by
  obtain ⟨a0, a1⟩ := fst_bd x
  obtain ⟨b0, b1⟩ : 0 ≤ clamp y 0 500 ∧ clamp y 0 500 ≤ 500 := by unfold clamp; omega
  have hc := valid_cases hv
  have HV := Lib.hid hv
  clear hv
  have ea : fst x = clamp x 0 1000 := rfl
  have eb : snd y = 2 * clamp y 0 500 := rfl
  obtain ⟨R1, hR1⟩ : ∃ R, R = nxV V D x y := ⟨_, rfl⟩
  obtain ⟨R2, hR2⟩ : ∃ R, R = nxD D x y := ⟨_, rfl⟩
  rw [← hR1, ← hR2]
  have c15a := fun w => clamp15 x 0 1000 w
  have c15b := fun w => clamp15 y 0 500 w
  obtain ⟨a, ha⟩ : ∃ a, a = clamp x 0 1000 := ⟨_, rfl⟩
  obtain ⟨b, hb⟩ : ∃ b, b = clamp y 0 500 := ⟨_, rfl⟩
  have HF := Lib.hid (nx_facts ha hb hR1 hR2)
  rw [ea, ← ha] at a0 a1
  rw [← hb] at b0 b1
  rw [← ha] at c15a
  rw [← hb] at c15b
  have C15a := Lib.hid c15a
  have C15b := Lib.hid c15b
  clear ha hb hR1 hR2 ea eb c15a c15b
  obtain ⟨M, hM⟩ : ∃ M, (if a - 2 * b < 2 * b - a then 2 * b - a else a - 2 * b) = M := ⟨_, rfl⟩
  obtain ⟨L, hL⟩ : ∃ L, (if 2 * b < a then 2 * b else a) = L := ⟨_, rfl⟩
  have HM := Lib.hid hM
  have HL := Lib.hid hL
  have L0 : 0 ≤ L ∧ L ≤ 1000 := by rw [← hL]; split <;> omega
  by_cases hd : 50 < M
  all_goals
    go_enter Try.func7, Try.ntmps7
    go_wp2_with fail
    refine (valid9 _ _ _ _).mono ?_
    rintro r w1 ⟨rfl, hb1⟩
    rw [HV.out]
    have hg1 := chain (w := w) (by go_grown) hb1
    obtain ⟨hc1, hf1⟩ := bcell hb1
    have hz1 := hb1.size
    simp at hz1
    have p0 : w1.cell? ⟨w.heap.size, 0, none⟩ = some (.int .i64 V) := (hc1 _ _ (by simp; omega)).trans (by go_cell)
    have p1 : w1.cell? ⟨w.heap.size, 1, none⟩ = some (.int .i64 D) := (hc1 _ _ (by simp; omega)).trans (by go_cell)
    have p2 : w1.cell? ⟨w.heap.size, 2, none⟩ = some (.bool F) := (hc1 _ _ (by simp; omega)).trans (by go_cell)
    have q0 : w1.cell? ⟨w.heap.size + 1, 0, none⟩ = some (.int .i64 0) := (hc1 _ _ (by simp)).trans (by go_cell)
    have q1 : w1.cell? ⟨w.heap.size + 1, 1, none⟩ = some (.int .i64 0) := (hc1 _ _ (by simp)).trans (by go_cell)
    have q2 : w1.cell? ⟨w.heap.size + 1, 2, none⟩ = some (.bool false) := (hc1 _ _ (by simp)).trans (by go_cell)
    have f0 : w1.frozen? ⟨w.heap.size + 1, 0, none⟩ = false := (hf1 _ _ (by simp)).trans (by simp [go_sem])
    have f1 : w1.frozen? ⟨w.heap.size + 1, 1, none⟩ = false := (hf1 _ _ (by simp)).trans (by simp [go_sem])
    have f2 : w1.frozen? ⟨w.heap.size + 1, 2, none⟩ = false := (hf1 _ _ (by simp)).trans (by simp [go_sem])
    have hz : w.heap.size + 1 < w1.heap.size := by omega
    have hz0 : w.heap.size < w1.heap.size := by omega
    clear hc1 hf1 hb1
    rcases hc with ⟨rfl, rfl, hV0, hV1⟩ | ⟨rfl, rfl, hV0, hV1⟩ | ⟨rfl, rfl, hV0, hV1⟩ | ⟨rfl, rfl, hV0, hV1⟩
  all_goals
    go_wp2_with fail
    refine (C15a.out _).mono ?_
    rintro r w2 ⟨rfl, rfl⟩
    go_wp2_with fail
    refine (C15b.out _).mono ?_
    rintro r w2 ⟨rfl, rfl⟩
    go_wp2
  all_goals
    have e1 := HM.out
    have e2 := HL.out
    have e3 := HF.out
    clear HM HL HF C15a C15b hM hL HV
    refine bodyPost_ret (v := .tuple #[.agg #[.int .i64 _, .int .i64 _, .bool _], .int .i64 _]) (by simp [results, Try.results7, go_sem, p0, p1, p2, q0, q1, q2, hz, hz0] <;> first | rfl | exact ⟨rfl, rfl⟩ | exact ⟨rfl, rfl, rfl⟩) rfl ⟨ret_pe ?_ ?_ ?_ rfl, ?_⟩
    · split at e1 <;> split at e2 <;> omega
    · split at e1 <;> split at e2 <;> omega
    · have r : R2 = 3 ∨ ¬ R2 = 3 := by omega
      rcases r with r | r <;> simp [r] <;> (split at e1 <;> split at e2 <;> omega)
    · go_grown
end Go.Proofs.Ytpkeghklfbpmhaa
