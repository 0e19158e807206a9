/-
  The law TransportLoss of inputs that it passes over. No condition but the slice's shape.
-/
import Derived.Test.YtfjeediecmhedaaLosR
set_option linter.unusedVariables false
set_option linter.unusedSimpArgs false
namespace Go.Proofs.Ytfjeediecmhedaa
open Go.RowKit
set_option maxRecDepth 100000 in
set_option maxHeartbeats 16000000 in
theorem loss_small (A : Option Addr) (n c : Nat) (l : List Int) (wh kk : Int) (w : World) (hl : l.length = n) (hb : Bt w A l) (hB : Byt l) (hc : n ≤ c) (wh0 : 0 ≤ wh) (wh1 : wh ≤ 255) (kk0 : 0 ≤ kk) (kk1 : kk ≤ 255) (h : n < 8) : Calls Try.prog 3 #[.slice A n c, .int .u8 wh, .int .u8 kk] w fun x w' => x = .returned (.bool true) ∧ Below w.heap.size w w' := by
  have d0 : decide ((n : Int) < 8) = true := by simp; omega
  go_enter Try.func3, Try.ntmps3
  go_wp2_with fail
  refine (awake10 _).mono ?_
  rintro x w1 ⟨rfl, hb1⟩
  have hg1 := chain (w := w) (by go_grown) hb1
  go_wp2_with fail
  refine (awake10 _).mono ?_
  rintro x w2 ⟨rfl, hb2⟩
  have hg2 := chain hg1 hb2
  go_wp2
  go_ret
  exact ⟨rfl, hg2⟩
set_option maxRecDepth 100000 in
set_option maxHeartbeats 16000000 in
theorem loss_big (A : Option Addr) (n c : Nat) (l : List Int) (wh kk : Int) (w : World) (hl : l.length = n) (hb : Bt w A l) (hB : Byt l) (hc : n ≤ c) (wh0 : 0 ≤ wh) (wh1 : wh ≤ 255) (kk0 : 0 ≤ kk) (kk1 : kk ≤ 255) (h : ¬ n < 8) (hm : msgB n = false) : Calls Try.prog 3 #[.slice A n c, .int .u8 wh, .int .u8 kk] w fun x w' => x = .returned (.bool true) ∧ Below w.heap.size w w' := by
  have d0 : decide ((n : Int) < 8) = false := by simp; omega
  have M := fun w => message11 A n c w
  rw [hm] at M
  replace M := Lib.hid M
  clear hm
  go_enter Try.func3, Try.ntmps3
  go_wp2_with fail
  refine (awake10 _).mono ?_
  rintro x w1 ⟨rfl, hb1⟩
  have hg1 := chain (w := w) (by go_grown) hb1
  go_wp2_with fail
  refine (M.out _).mono ?_
  rintro x w2 ⟨rfl, rfl⟩
  go_wp2_with fail
  refine (awake10 _).mono ?_
  rintro x w2 ⟨rfl, hb2⟩
  have hg2 := chain hg1 hb2
  go_wp2
  go_ret
  exact ⟨rfl, hg2⟩
end Go.Proofs.Ytfjeediecmhedaa
