/-
  The contracts of the references of validSender and of validReceiver. No condition.
-/
import Derived.Test.YtfjeediecmhedaaVal
set_option linter.unusedVariables false
set_option linter.unusedSimpArgs false
namespace Go.Proofs.Ytfjeediecmhedaa
open Go.RowKit
set_option maxRecDepth 100000 in
set_option maxHeartbeats 4000000 in
theorem refS30 (A : Option Addr) (n c : Nat) (At Nu Bl Se : Int) (Wt : Bool) (Gp Dl : Int) (Fl : Bool) (w : World) :
    Calls Try.prog 30 #[.agg #[.slice A n c, .int .i64 At, .int .i64 Nu, .int .i64 Bl, .int .i64 Se, .bool Wt, .int .i64 Gp, .int .i64 Dl, .bool Fl]] w fun r w' => r = .returned (.bool (vS n At Nu Bl Se Wt Gp Dl Fl)) ∧ Below w.heap.size w w' := by
  obtain ⟨O, hO⟩ : ∃ O, O = vS n At Nu Bl Se Wt Gp Dl Fl := ⟨_, rfl⟩
  rw [← hO]
  unfold vS at hO
  have HM : msgB n = true → 1 ≤ n ∧ n ≤ 1023 := fun h => by simpa [msgB] using h
  have M := fun w => message11 A n c w
  have C := fun w => block44 Bl Se w
  have D := fun w => deadline43 Dl w
  generalize msgB n = m at M hO HM
  generalize cntB Bl Se = cb at C hO
  generalize inB Dl 0 1099512627776 = d at D hO
  replace M := Lib.hid M
  replace C := Lib.hid C
  replace D := Lib.hid D
  have HO := Lib.hid hO
  clear hO
  replace HM := Lib.hid HM
  cases m <;> cases cb <;> cases d
  all_goals
    try obtain ⟨hm1, hm2⟩ := HM.out rfl
    go_enter Try.func30, Try.ntmps30
    go_wp2_with (first | (go_at_call 11; refine (M.out _).mono ?_; rintro r w1 ⟨rfl, rfl⟩) | (go_at_call 44; refine (C.out _).mono ?_; rintro r w1 ⟨rfl, rfl⟩) | (go_at_call 43; refine (D.out _).mono ?_; rintro r w1 ⟨rfl, rfl⟩))
    all_goals
      first
      | (exfalso; omega)
      | (go_ret; refine ⟨ret_bool ?_, by go_grown⟩; rw [HO.out]; have hm := HM.out; clear HM; clear HO; rw [Bool.eq_iff_iff]; simp_all [inB, parB] <;> omega)
set_option maxRecDepth 100000 in
set_option maxHeartbeats 4000000 in
theorem refR23 (A : Option Addr) (n c : Nat) (Le Nu Bl Go : Int) (Bu Dn : Bool) (Dl : Int) (Fl : Bool) (w : World) :
    Calls Try.prog 23 #[.agg #[.slice A n c, .int .i64 Le, .int .i64 Nu, .int .i64 Bl, .int .i64 Go, .bool Bu, .bool Dn, .int .i64 Dl, .bool Fl]] w fun r w' => r = .returned (.bool (vR n Le Nu Bl Go Bu Dn Dl Fl)) ∧ Below w.heap.size w w' := by
  obtain ⟨O, hO⟩ : ∃ O, O = vR n Le Nu Bl Go Bu Dn Dl Fl := ⟨_, rfl⟩
  rw [← hO]
  unfold vR at hO
  have M := fun w => message11 A n c w
  have C := fun w => block44 Bl Go w
  have D := fun w => deadline43 Dl w
  generalize msgB n = m at M hO
  generalize cntB Bl Go = cb at C hO
  generalize inB Dl 0 1099512627776 = d at D hO
  replace M := Lib.hid M
  replace C := Lib.hid C
  replace D := Lib.hid D
  have HO := Lib.hid hO
  clear hO
  cases m <;> cases cb <;> cases d
  all_goals
    go_enter Try.func23, Try.ntmps23
    go_wp2_with (first | (go_at_call 11; refine (M.out _).mono ?_; rintro r w1 ⟨rfl, rfl⟩) | (go_at_call 44; refine (C.out _).mono ?_; rintro r w1 ⟨rfl, rfl⟩) | (go_at_call 43; refine (D.out _).mono ?_; rintro r w1 ⟨rfl, rfl⟩))
    all_goals
      first
      | (exfalso; omega)
      | (go_ret; refine ⟨ret_bool ?_, by go_grown⟩; rw [HO.out]; clear HO; rw [Bool.eq_iff_iff]; simp_all [inB, parB] <;> omega)
end Go.Proofs.Ytfjeediecmhedaa
