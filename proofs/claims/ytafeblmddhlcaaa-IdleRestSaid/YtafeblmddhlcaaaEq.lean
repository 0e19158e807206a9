import Derived.Test.YtafeblmddhlcaaaR2
import Derived.Shelf.RegionOpenPlain
import Derived.Deep.LoopGhost
import Derived.Deep.Draws
set_option linter.unusedVariables false
namespace Go.Proofs.Ytafeblmddhlcaaa
open Go.RowKit Go.Shelf Go.Lib
theorem below_drewN (w : World) (q : Nat) : Below w.heap.size w (w.drewN q) := ⟨rfl, rfl, rfl, Nat.le_refl _, fun _ _ => rfl⟩
set_option maxHeartbeats 1000000 in
theorem same19 (n c d : Nat) (A B : Option Addr) (f : Nat → Int) (w : World) (ha : Ints .i64 w A n f) (hb : Ints .i64 w B n f) (hn : n ≤ 9223372036854775807) :
    Calls Try.prog 19 #[.slice A n c, .slice B n d] w fun r w' => r = .returned (.bool true) ∧ Below w.heap.size w w' := by
  have mixed : Try.prog.follows Departure.mixedOrders = true := rfl
  have HA := Lib.hid ha
  have HB := Lib.hid hb
  clear ha hb
  go_enter Try.func19, Try.ntmps19
  go_wp2
  go_loopg [13] n (fun g s13 wr => ∃ k q : Nat, k ≤ n ∧ n - k ≤ g ∧ s13 = .int .i64 k ∧ wr = w.drewN q)
  case atStart => exact ⟨0, 0, Nat.zero_le _, by omega, rfl, rfl⟩
  case round =>
    obtain ⟨k, q, hk, hg, rfl, rfl⟩ := hrel
    by_cases hlt : k < n
    · obtain ⟨b1, o1, rfl, hb1, hc1⟩ := HA.out (by omega)
      obtain ⟨b2, o2, rfl, hb2, hc2⟩ := HB.out (by omega)
      have g1 := hc1 k hlt
      have g2 := hc2 k hlt
      clear hc1 hc2 HA HB
      generalize f k = x at g1 g2
      go_wp2_with fail
      go_region_o
      go_wp2
      go_roundg (n - (k + 1))
      case measure => omega
      case rel => exact ⟨k + 1, q + 1, by omega, by omega, by go_num, rfl⟩
    · obtain rfl : k = n := by omega
      go_wp2
      go_ret
      exact ⟨rfl, below_drewN w q⟩
end Go.Proofs.Ytafeblmddhlcaaa
