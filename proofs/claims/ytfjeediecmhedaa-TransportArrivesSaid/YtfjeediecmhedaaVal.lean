/-
  The contracts of validSender, validReceiver and of their references. No condition.
-/
import Derived.Test.YtfjeediecmhedaaBytes
set_option linter.unusedVariables false
set_option linter.unusedSimpArgs false
namespace Go.Proofs.Ytfjeediecmhedaa
open Go.RowKit
def vS (n : Nat) (At Nu Bl Se : Int) (Wt : Bool) (Gp Dl : Int) (Fl : Bool) : Bool :=
  msgB n && cntB Bl Se && inB Nu 0 15 && inB Gp 0 127 && inB Dl 0 1099512627776 && (if At = n then !Wt && !Fl else parB At n && !(Wt && Fl))
def vR (n : Nat) (Le Nu Bl Go : Int) (Bu Dn : Bool) (Dl : Int) (Fl : Bool) : Bool :=
  inB Bl 0 255 && inB Dl 0 1099512627776 && (if Bu then !Dn && !Fl && parB n Le && inB Nu 0 15 && cntB Bl Go else decide (Nu = 0) && decide (Go = 0) && decide (Dl = 0) && decide (Le = n) && (if Dn then !Fl && msgB n else decide (n = 0)))
set_option maxRecDepth 100000 in
set_option maxHeartbeats 4000000 in
theorem validS46 (A : Option Addr) (n c : Nat) (At Nu Bl Se : Int) (Wt : Bool) (Gp Dl : Int) (Fl : Bool) (w : World) :
    Calls Try.prog 46 #[.agg #[.slice A n c, .int .i64 At, .int .i64 Nu, .int .i64 Bl, .int .i64 Se, .bool Wt, .int .i64 Gp, .int .i64 Dl, .bool Fl]] w fun r w' => r = .returned (.bool (vS n At Nu Bl Se Wt Gp Dl Fl)) ∧ Below w.heap.size w w' := by
  obtain ⟨O, hO⟩ : ∃ O, O = vS n At Nu Bl Se Wt Gp Dl Fl := ⟨_, rfl⟩
  rw [← hO]
  unfold vS at hO
  have M := fun w => message41 A n c w
  have C := fun w => counts48 Bl Se w
  have P := fun w => partly47 At n w
  generalize msgB n = m at M hO
  generalize cntB Bl Se = cb at C hO
  generalize parB At n = pb at P hO
  replace M := Lib.hid M
  replace C := Lib.hid C
  replace P := Lib.hid P
  have HO := Lib.hid hO
  clear hO
  cases m <;> cases cb <;> cases pb
  all_goals
    go_enter Try.func46, Try.ntmps46
    go_wp2_with (first | (go_at_call 41; refine (M.out _).mono ?_; rintro r w1 ⟨rfl, rfl⟩) | (go_at_call 48; refine (C.out _).mono ?_; rintro r w1 ⟨rfl, rfl⟩) | (go_at_call 47; refine (P.out _).mono ?_; rintro r w1 ⟨rfl, rfl⟩))
    all_goals
      first
      | (exfalso; omega)
      | (go_ret; refine ⟨ret_bool ?_, by go_grown⟩; rw [HO.out]; clear HO; rw [Bool.eq_iff_iff]; simp_all [inB] <;> omega)
set_option maxRecDepth 100000 in
set_option maxHeartbeats 4000000 in
theorem validR36 (A : Option Addr) (n c : Nat) (Le Nu Bl Go : Int) (Bu Dn : Bool) (Dl : Int) (Fl : Bool) (w : World) :
    Calls Try.prog 36 #[.agg #[.slice A n c, .int .i64 Le, .int .i64 Nu, .int .i64 Bl, .int .i64 Go, .bool Bu, .bool Dn, .int .i64 Dl, .bool Fl]] w fun r w' => r = .returned (.bool (vR n Le Nu Bl Go Bu Dn Dl Fl)) ∧ Below w.heap.size w w' := by
  obtain ⟨O, hO⟩ : ∃ O, O = vR n Le Nu Bl Go Bu Dn Dl Fl := ⟨_, rfl⟩
  rw [← hO]
  unfold vR at hO
  have M := fun w => message41 A n c w
  have C := fun w => counts48 Bl Go w
  have P := fun w => partly47 n Le w
  generalize msgB n = m at M hO
  generalize cntB Bl Go = cb at C hO
  generalize parB n Le = pb at P hO
  replace M := Lib.hid M
  replace C := Lib.hid C
  replace P := Lib.hid P
  have HO := Lib.hid hO
  clear hO
  cases m <;> cases cb <;> cases pb
  all_goals
    go_enter Try.func36, Try.ntmps36
    go_wp2_with (first | (go_at_call 41; refine (M.out _).mono ?_; rintro r w1 ⟨rfl, rfl⟩) | (go_at_call 48; refine (C.out _).mono ?_; rintro r w1 ⟨rfl, rfl⟩) | (go_at_call 47; refine (P.out _).mono ?_; rintro r w1 ⟨rfl, rfl⟩))
    all_goals
      first
      | (exfalso; omega)
      | (go_ret; refine ⟨ret_bool ?_, by go_grown⟩; rw [HO.out]; clear HO; rw [Bool.eq_iff_iff]; simp_all [inB] <;> omega)
end Go.Proofs.Ytfjeediecmhedaa
