/-
  The contract of the reference's Step at a valid state.
-/
import Derived.Test.YtpkeghklfbpmhaaBase
set_option linter.unusedVariables false
namespace Go.Proofs.Ytpkeghklfbpmhaa
open Go.RowKit
set_option maxHeartbeats 1600000 in
theorem step11 (V D x y : Int) (F : Bool) (w : World) (hv : validB V D F = true) : Calls Try.prog 11 #[.agg #[.int .i64 V, .int .i64 D, .bool F], .int .i64 x, .int .i64 y] w fun e w' => e = .returned (.agg #[.int .i64 (nxV V D x y), .int .i64 (nxD D x y), .bool (nxD D x y == 3)]) ∧ Below w.heap.size w w' := by
  obtain ⟨a0, a1⟩ := fst_bd x
  obtain ⟨b0, b1⟩ : 0 ≤ clamp y 0 500 ∧ clamp y 0 500 ≤ 500 := by unfold clamp; omega
  have hc := valid_cases hv
  clear hv
  have ea : fst x = clamp x 0 1000 := rfl
  have eb : snd y = 2 * clamp y 0 500 := rfl
  obtain ⟨R1, hR1⟩ : ∃ R, R = nxV V D x y := ⟨_, rfl⟩
  obtain ⟨R2, hR2⟩ : ∃ R, R = nxD D x y := ⟨_, rfl⟩
  rw [← hR1, ← hR2]
  have c15a := fun w => clamp16 x 0 1000 w (by omega)
  have c15b := fun w => clamp16 y 0 500 w (by omega)
  obtain ⟨a, ha⟩ : ∃ a, a = clamp x 0 1000 := ⟨_, rfl⟩
  obtain ⟨b, hb⟩ : ∃ b, b = clamp y 0 500 := ⟨_, rfl⟩
  have HF := Lib.hid (nx_facts ha hb hR1 hR2)
  rw [ea, ← ha] at a0 a1
  rw [← hb] at b0 b1
  rw [← ha] at c15a
  rw [← hb] at c15b
  have C15a := Lib.hid c15a
  have C15b := Lib.hid c15b
  clear ha hb hR1 hR2 ea eb c15a c15b
  by_cases hd : 50 < a - 2 * b <;> by_cases hd' : 50 < 2 * b - a
  all_goals
    rcases hc with ⟨rfl, rfl, hV0, hV1⟩ | ⟨rfl, rfl, hV0, hV1⟩ | ⟨rfl, rfl, hV0, hV1⟩ | ⟨rfl, rfl, hV0, hV1⟩
  all_goals
    first
    | (exfalso; omega)
    | skip
  all_goals
    go_enter Try.func11, Try.ntmps11
    go_wp2_with fail
    refine (C15a.out _).mono ?_
    rintro r w2 ⟨rfl, rfl⟩
    go_wp2_with fail
    refine (C15b.out _).mono ?_
    rintro r w2 ⟨rfl, rfl⟩
    go_wp2
  all_goals
    have e3 := HF.out
    clear HF C15a C15b
    refine bodyPost_ret (v := .agg #[.int .i64 _, .int .i64 _, .bool _]) (by simp [results, Try.results11, go_sem] <;> first | rfl | exact ⟨rfl, rfl⟩ | exact ⟨rfl, rfl, rfl⟩) rfl ⟨ret_p ?_ ?_ ?_, ?_⟩
    · omega
    · omega
    · have r : R2 = 3 ∨ ¬ R2 = 3 := by omega
      rcases r with r | r <;> simp [r] <;> omega
    · go_grown
end Go.Proofs.Ytpkeghklfbpmhaa
