/-
  The law TransportCarries of inputs that are refused. No condition but the slice's shape.
-/
import Derived.Test.YtfjeediecmhedaaRCar1
import Derived.Test.YtfjeediecmhedaaCarP
import Derived.Test.YtfjeediecmhedaaEqF
import Derived.Test.YtfjeediecmhedaaSendsCore
set_option linter.unusedVariables false
set_option linter.unusedSimpArgs false
namespace Go.Proofs.Ytfjeediecmhedaa
open Go.RowKit
set_option maxRecDepth 100000 in
set_option maxHeartbeats 16000000 in
theorem carries_big (A : Option Addr) (n c : Nat) (b g : Int) (l : List Int) (w : World) (hl : l.length = n) (hb : Bt w A l) (hc : n ≤ c) (h : 1100 < n) : Calls Try.prog 4 #[.slice A n c, .int .i64 b, .int .i64 g] w fun x w' => x = .returned (.bool true) ∧ Below w.heap.size w w' := by
  have LG := fun w => long15 A n c w
  rw [decide_eq_true h] at LG
  replace LG := Lib.hid LG
  clear h
  go_enter Try.func4, Try.ntmps4
  go_wp2_with fail
  refine (awake10 _).mono ?_
  rintro x w1 ⟨rfl, hb1⟩
  have hg1 := chain (w := w) (by go_grown) hb1
  go_wp2_with fail
  refine (LG.out _).mono ?_
  rintro x w2 ⟨rfl, rfl⟩
  go_wp2_with fail
  refine (awake10 _).mono ?_
  rintro x w2 ⟨rfl, hb2⟩
  have hg2 := chain hg1 hb2
  go_wp2
  go_ret
  exact ⟨rfl, hg2⟩
set_option maxRecDepth 100000 in
set_option maxHeartbeats 16000000 in
theorem carries_arg (A : Option Addr) (n c : Nat) (b g : Int) (l : List Int) (w : World) (hl : l.length = n) (hb : Bt w A l) (hc : n ≤ c) (h : ¬ 1100 < n) (hm : msgB n = false) : Calls Try.prog 4 #[.slice A n c, .int .i64 b, .int .i64 g] w fun x w' => x = .returned (.bool true) ∧ Below w.heap.size w w' := by
  have LG := fun w => long15 A n c w
  rw [decide_eq_false h] at LG
  replace LG := Lib.hid LG
  have M := fun w => message11 A n c w
  rw [hm] at M
  replace M := Lib.hid M
  have K := fun w h => carry12_arg A n c b g l w hl h hc hm
  replace K := Lib.hid K
  have HB := Lib.hid hb
  clear hb hl h hm
  go_enter Try.func4, Try.ntmps4
  go_wp2_with fail
  refine (awake10 _).mono ?_
  rintro x w1 ⟨rfl, hb1⟩
  have hg1 := chain (w := w) (by go_grown) hb1
  go_wp2_with fail
  refine (LG.out _).mono ?_
  rintro x w2 ⟨rfl, rfl⟩
  go_wp2_with fail
  refine (K.out _ (HB.out.below hg1)).mono ?_
  rintro x w2 ⟨rfl, hb2⟩
  have hg2 := chain hg1 hb2
  go_wp2_with fail
  refine (M.out _).mono ?_
  rintro x w3 ⟨rfl, rfl⟩
  go_wp2
  go_ret
  exact ⟨rfl, hg2⟩
set_option maxRecDepth 100000 in
set_option maxHeartbeats 16000000 in
theorem carries_range (A : Option Addr) (n c : Nat) (b g : Int) (l : List Int) (w : World) (hl : l.length = n) (hb : Bt w A l) (hc : n ≤ c) (h : ¬ 1100 < n) (hm : msgB n = true) (hr : b < 0 ∨ 255 < b ∨ g < 0 ∨ 127 < g) : Calls Try.prog 4 #[.slice A n c, .int .i64 b, .int .i64 g] w fun x w' => x = .returned (.bool true) ∧ Below w.heap.size w w' := by
  have LG := fun w => long15 A n c w
  rw [decide_eq_false h] at LG
  replace LG := Lib.hid LG
  have M := fun w => message11 A n c w
  rw [hm] at M
  replace M := Lib.hid M
  have K := fun w h => carry12_range A n c b g l w hl h hc hm hr
  replace K := Lib.hid K
  have HB := Lib.hid hb
  have h4 : (b < 0) ∨ (0 ≤ b ∧ 255 < b) ∨ (0 ≤ b ∧ b ≤ 255 ∧ g < 0) ∨ (0 ≤ b ∧ b ≤ 255 ∧ 0 ≤ g ∧ 127 < g) := by omega
  have H4 := Lib.hid h4
  clear hb hl h hm hr h4
  go_enter Try.func4, Try.ntmps4
  go_wp2_with fail
  refine (awake10 _).mono ?_
  rintro x w1 ⟨rfl, hb1⟩
  have hg1 := chain (w := w) (by go_grown) hb1
  go_wp2_with fail
  refine (LG.out _).mono ?_
  rintro x w2 ⟨rfl, rfl⟩
  go_wp2_with fail
  refine (K.out _ (HB.out.below hg1)).mono ?_
  rintro x w2 ⟨rfl, hb2⟩
  have hg2 := chain hg1 hb2
  go_wp2_with fail
  refine (M.out _).mono ?_
  rintro x w3 ⟨rfl, rfl⟩
  rcases H4.out with h | ⟨h1, h⟩ | ⟨h1, h2, h⟩ | ⟨h1, h2, h3, h⟩
  · have d0 : decide (b < 0) = true := by simp; omega
    go_wp2
    go_ret
    exact ⟨rfl, hg2⟩
  · have d0 : decide (b < 0) = false := by simp; omega
    have d1 : decide (255 < b) = true := by simp; omega
    go_wp2
    go_ret
    exact ⟨rfl, hg2⟩
  · have d0 : decide (b < 0) = false := by simp; omega
    have d1 : decide (255 < b) = false := by simp; omega
    have d2 : decide (g < 0) = true := by simp; omega
    go_wp2
    go_ret
    exact ⟨rfl, hg2⟩
  · have d0 : decide (b < 0) = false := by simp; omega
    have d1 : decide (255 < b) = false := by simp; omega
    have d2 : decide (g < 0) = false := by simp; omega
    have d3 : decide (127 < g) = true := by simp; omega
    go_wp2
    go_ret
    exact ⟨rfl, hg2⟩
end Go.Proofs.Ytfjeediecmhedaa
