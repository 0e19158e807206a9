/-
  The contracts of functions on measures where there is none. No condition.
-/
import Derived.Test.YtamajedopofcoaaComP
set_option linter.unusedVariables false
set_option linter.unusedSimpArgs false
namespace Go.Proofs.Ytamajedopofcoaa
open Go.RowKit
set_option maxRecDepth 100000 in
set_option maxHeartbeats 16000000 in
theorem clone48_nil (w : World) : Calls Try.prog 48 #[.slice none 0 0] w fun r w' => r = .returned (.slice none 0 0) ∧ Below w.heap.size w w' := by
  have q := fun (w : World) (a : Option Addr) (n c : Nat) => Lib.run_eql_slice_nil (P := Try.prog) w 45 66 a n c 0 0 Try.underlying45
  go_enter Try.func48, Try.ntmps48
  go_wp2
  go_ret
  exact ⟨rfl, Below.refl _ _⟩
set_option maxRecDepth 100000 in
set_option maxHeartbeats 16000000 in
theorem copy39_nil (w : World) : Calls Try.prog 39 #[.slice none 0 0] w fun r w' => r = .returned (.slice none 0 0) ∧ Below w.heap.size w w' := by
  go_enter Try.func39, Try.ntmps39
  go_wp2_with fail
  refine (clone48_nil _).mono ?_
  rintro r w1 ⟨rfl, hb1⟩
  go_wp2_with fail
  go_loopg [9] 0 (fun gk v wr => v = .int .i64 0 ∧ Below w.heap.size w wr)
  case atStart => exact ⟨rfl, hb1⟩
  case round =>
    obtain ⟨rfl, hg⟩ := hrel
    go_wp2
    go_ret
    exact ⟨rfl, hg⟩
set_option maxRecDepth 100000 in
set_option maxHeartbeats 16000000 in
theorem index47_nil (v : Value) (w : World) : Calls Try.prog 47 #[.slice none 0 0, v] w fun r w' => r = .returned (.int .i64 (-1)) ∧ Below w.heap.size w w' := by
  go_enter Try.func47, Try.ntmps47
  go_wp2_with fail
  go_loopg [8] 0 (fun gk u wr => u = .int .i64 0 ∧ Below w.heap.size w wr)
  case atStart => exact ⟨rfl, Below.refl _ _⟩
  case round =>
    obtain ⟨rfl, hg⟩ := hrel
    go_wp2
    go_ret
    exact ⟨rfl, hg⟩
set_option maxRecDepth 100000 in
set_option maxHeartbeats 16000000 in
theorem cont37_nil (v : Value) (w : World) : Calls Try.prog 37 #[.slice none 0 0, v] w fun r w' => r = .returned (.bool false) ∧ Below w.heap.size w w' := by
  have K := fun w => index47_nil v w
  replace K := Lib.hid K
  go_enter Try.func37, Try.ntmps37
  go_wp2_with fail
  refine (K.out _).mono ?_
  rintro r w1 ⟨rfl, hb1⟩
  go_wp2
  go_ret
  exact ⟨rfl, hb1⟩
set_option maxRecDepth 100000 in
set_option maxHeartbeats 16000000 in
theorem meas40_nil (w : World) : Calls Try.prog 40 #[.slice none 0 0] w fun r w' => r = .returned (.bool true) ∧ Below w.heap.size w w' := by
  go_enter Try.func40, Try.ntmps40
  go_wp2_with fail
  refine (cont37_nil _ _).mono ?_
  rintro r w1 ⟨rfl, hb1⟩
  go_wp2
  go_ret
  exact ⟨rfl, hb1⟩
end Go.Proofs.Ytamajedopofcoaa
