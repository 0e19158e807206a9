/-
  slices.Equal of two rows of the same states answers true. No condition.
-/
import Derived.Test.YtpkeghklfbpmhaaSafeLaw
import Derived.Test.YtpkeghklfbpmhaaRefRun
import Derived.RegionTactic
import Derived.Deep.LoopGhost
import Derived.Deep.Draws
set_option linter.unusedVariables false
namespace Go.Proofs.Ytpkeghklfbpmhaa
open Go.RowKit
theorem below_drewN (w : World) (q : Nat) : Below w.heap.size w (w.drewN q) := ⟨rfl, rfl, rfl, Nat.le_refl _, fun _ _ => rfl⟩
set_option maxHeartbeats 1000000 in
theorem same13 (n c d : Nat) (A B : Option Addr) (f g : Nat → Int) (w : World) (ha : States w A n f g) (hb : States w B n f g) (hn : n ≤ 9223372036854775807) :
    Calls Try.prog 13 #[.slice A n c, .slice B n d] w fun r w' => r = .returned (.bool true) ∧ Below w.heap.size w w' := by
  have HA := Lib.hid ha
  have HB := Lib.hid hb
  clear ha hb
  go_enter Try.func13, Try.ntmps13
  go_wp2_with fail
  go_loopg [13] n (fun gk s13 wr => ∃ k q : Nat, k ≤ n ∧ n - k ≤ gk ∧ s13 = .int .i64 k ∧ wr = w.drewN q)
  case atStart => exact ⟨0, 0, Nat.zero_le _, by omega, rfl, rfl⟩
  case round =>
    obtain ⟨k, q, hk, hg, rfl, rfl⟩ := hrel
    by_cases hlt : k < n
    · obtain ⟨b1, rfl, hb1, hc1⟩ := HA.out (by omega)
      obtain ⟨b2, rfl, hb2, hc2⟩ := HB.out (by omega)
      obtain ⟨g1, g2, g3⟩ := hc1 k hlt
      obtain ⟨g4, g5, g6⟩ := hc2 k hlt
      clear hc1 hc2 HA HB
      generalize sV f g (k + 1) = V at g1 g4
      generalize sD f g (k + 1) = D at g2 g3 g5 g6
      generalize (D == 3) = F at g3 g6
      go_wp2_with fail
      go_region
      go_wp2
      go_roundg (n - (k + 1))
      case measure => omega
      case rel => exact ⟨k + 1, q + 1, by omega, by omega, by go_num, rfl⟩
    · obtain rfl : k = n := by omega
      go_wp2
      go_ret
      exact ⟨rfl, below_drewN w q⟩
end Go.Proofs.Ytpkeghklfbpmhaa
