/-
  The reference's Next where it refuses. No condition.
-/
import Derived.Test.YtfjeediecmhedaaNext0
import Derived.Test.YtfjeediecmhedaaHeld3
import Derived.Test.YtfjeediecmhedaaRSend
set_option linter.unusedVariables false
set_option linter.unusedSimpArgs false
namespace Go.Proofs.Ytfjeediecmhedaa
open Go.RowKit
set_option maxRecDepth 100000 in
set_option maxHeartbeats 16000000 in
theorem rnext31_end (A : Option Addr) (n c : Nat) (Nu Bl Se : Int) (Wt : Bool) (Gp Dl : Int) (Fl : Bool) (l : List Int) (t : Int) (w : World) : Calls Try.prog 31 #[.agg #[.slice A n c, .int .i64 n, .int .i64 Nu, .int .i64 Bl, .int .i64 Se, .bool Wt, .int .i64 Gp, .int .i64 Dl, .bool Fl], .int .i64 t] w (S3 szero [] 6 w) := by
  go_enter Try.func31, Try.ntmps31
  go_wp2_with fail
  refine bodyPost_ret (v := .tuple #[.agg #[.slice none 0 0, .int .i64 0, .int .i64 0, .int .i64 0, .int .i64 0, .bool false, .int .i64 0, .int .i64 0, .bool false], .slice none 0 0, .int .i64 6]) (by simp [results, Try.results31, go_sem] <;> first | rfl | ((repeat' apply And.intro) <;> rfl)) rfl ⟨none, 0, 0, none, 0, 0, rfl, rfl, by omega, Bt.nil _ _, Fr.none _, rfl, by omega, Bt.nil _ _, Fr.none _, by go_grown⟩
set_option maxRecDepth 100000 in
set_option maxHeartbeats 16000000 in
theorem rnext31_fl (A : Option Addr) (n c : Nat) (At Nu Bl Se : Int) (Wt : Bool) (Gp Dl : Int) (l : List Int) (t : Int) (w : World) (ha : At < n) : Calls Try.prog 31 #[.agg #[.slice A n c, .int .i64 At, .int .i64 Nu, .int .i64 Bl, .int .i64 Se, .bool Wt, .int .i64 Gp, .int .i64 Dl, .bool true], .int .i64 t] w (S3 szero [] 6 w) := by
  have hx : (At == (n : Int)) = false := by simp; omega
  clear ha
  go_enter Try.func31, Try.ntmps31
  go_wp2_with fail
  refine bodyPost_ret (v := .tuple #[.agg #[.slice none 0 0, .int .i64 0, .int .i64 0, .int .i64 0, .int .i64 0, .bool false, .int .i64 0, .int .i64 0, .bool false], .slice none 0 0, .int .i64 6]) (by simp [results, Try.results31, go_sem] <;> first | rfl | ((repeat' apply And.intro) <;> rfl)) rfl ⟨none, 0, 0, none, 0, 0, rfl, rfl, by omega, Bt.nil _ _, Fr.none _, rfl, by omega, Bt.nil _ _, Fr.none _, by go_grown⟩
set_option maxRecDepth 100000 in
set_option maxHeartbeats 16000000 in
theorem rnext31_wt (A : Option Addr) (n c : Nat) (At Nu Bl Se : Int) (Gp Dl : Int) (l : List Int) (t : Int) (w : World) (ha : At < n) : Calls Try.prog 31 #[.agg #[.slice A n c, .int .i64 At, .int .i64 Nu, .int .i64 Bl, .int .i64 Se, .bool true, .int .i64 Gp, .int .i64 Dl, .bool false], .int .i64 t] w (S3 szero [] 6 w) := by
  have hx : (At == (n : Int)) = false := by simp; omega
  clear ha
  go_enter Try.func31, Try.ntmps31
  go_wp2_with fail
  refine bodyPost_ret (v := .tuple #[.agg #[.slice none 0 0, .int .i64 0, .int .i64 0, .int .i64 0, .int .i64 0, .bool false, .int .i64 0, .int .i64 0, .bool false], .slice none 0 0, .int .i64 6]) (by simp [results, Try.results31, go_sem] <;> first | rfl | ((repeat' apply And.intro) <;> rfl)) rfl ⟨none, 0, 0, none, 0, 0, rfl, rfl, by omega, Bt.nil _ _, Fr.none _, rfl, by omega, Bt.nil _ _, Fr.none _, by go_grown⟩
set_option maxRecDepth 100000 in
set_option maxHeartbeats 16000000 in
theorem rnext31_time (A : Option Addr) (n c : Nat) (At Nu Bl Se : Int) (Gp Dl : Int) (l : List Int) (t : Int) (w : World) (ha : At < n) (hx : t < Dl) : Calls Try.prog 31 #[.agg #[.slice A n c, .int .i64 At, .int .i64 Nu, .int .i64 Bl, .int .i64 Se, .bool false, .int .i64 Gp, .int .i64 Dl, .bool false], .int .i64 t] w (S3 szero [] 16 w) := by
  have hy : (At == (n : Int)) = false := by simp; omega
  have hd : decide (t < Dl) = true := by simp [hx]
  clear ha
  go_enter Try.func31, Try.ntmps31
  go_wp2_with fail
  refine bodyPost_ret (v := .tuple #[.agg #[.slice none 0 0, .int .i64 0, .int .i64 0, .int .i64 0, .int .i64 0, .bool false, .int .i64 0, .int .i64 0, .bool false], .slice none 0 0, .int .i64 16]) (by simp [results, Try.results31, go_sem] <;> first | rfl | ((repeat' apply And.intro) <;> rfl)) rfl ⟨none, 0, 0, none, 0, 0, rfl, rfl, by omega, Bt.nil _ _, Fr.none _, rfl, by omega, Bt.nil _ _, Fr.none _, by go_grown⟩
end Go.Proofs.Ytfjeediecmhedaa
