/-
  The core of the law MixtureCells. No condition but the slice's shape.
-/
import Derived.Test.YtemfjikiopcgpaaFactor
set_option linter.unusedVariables false
set_option linter.unusedSimpArgs false
namespace Go.Proofs.Ytemfjikiopcgpaa
open Go.RowKit
theorem cells_out (a r : Bool) (F W : Int) (A : Option Addr) (n cap : Nat) (s c : Int) (w : World) (h : 20 < n) :
    Calls Try.prog 8 #[.agg #[.bool a, .bool r, .int .i64 F, .int .i64 W, .slice A n cap], .int .i64 s, .int .i64 c] w fun x w' => x = .returned (.bool true) ∧ Below w.heap.size w w' := by
  have T := fun w => few12 a r F W A n cap w
  have h' : decide (n ≤ 20) = false := by simp; omega
  rw [h'] at T
  replace T := Lib.hid T
  clear h'
  go_enter Try.func8, Try.ntmps8
  go_wp2_with fail
  refine (awake11 _).mono ?_
  rintro x w1 ⟨rfl, hb1⟩
  have hg1 := chain (w := w) (by go_grown) hb1
  have P1 := (PV.new (w := w) rfl _ _ _ _ _ _ _).below hb1
  obtain ⟨p0, p1, p2, p3, p4, e0, e1, e2, e3, e4, hl1⟩ := id P1
  clear hb1 P1
  go_wp2_with fail
  refine (T.out _).mono ?_
  rintro x w2 ⟨rfl, hb2⟩
  have hg2 := chain hg1 hb2
  go_wp2
  go_ret
  exact ⟨rfl, hg2⟩
set_option maxRecDepth 100000 in
set_option maxHeartbeats 2000000 in
theorem cells_in (a r : Bool) (F W : Int) (A : Option Addr) (n cap : Nat) (f g : Nat → Int) (s c : Int) (w : World) (hs : Cls w A n f g) (hl : n ≤ 9223372036854775807) (h : n ≤ 20) :
    Calls Try.prog 8 #[.agg #[.bool a, .bool r, .int .i64 F, .int .i64 W, .slice A n cap], .int .i64 s, .int .i64 c] w fun x w' => x = .returned (.bool true) ∧ Below w.heap.size w w' := by
  have T := fun w => few12 a r F W A n cap w
  have h' : decide (n ≤ 20) = true := by simp; omega
  rw [h'] at T
  replace T := Lib.hid T
  clear h'
  have HS := Lib.hid hs
  clear hs
  have A1 := fun w h => fac24 a r F W A n cap f g s c w h hl
  have A2 := fun w h => fac25 a r F W A n cap f g s c w h hl
  have B1 := fun w => cell26 s c w
  have B2 := fun w => cell27 s c w
  generalize facN a r F W n f g s c = X at A1 A2
  generalize facE a r F W n f g s c = Y at A1 A2
  generalize cellN s c = Z at B1 B2
  replace A1 := Lib.hid A1
  replace A2 := Lib.hid A2
  replace B1 := Lib.hid B1
  replace B2 := Lib.hid B2
  go_enter Try.func8, Try.ntmps8
  go_wp2_with fail
  refine (awake11 _).mono ?_
  rintro x w1 ⟨rfl, hb1⟩
  have hg1 := chain (w := w) (by go_grown) hb1
  have P1 := (PV.new (w := w) rfl _ _ _ _ _ _ _).below hb1
  obtain ⟨p0, p1, p2, p3, p4, e0, e1, e2, e3, e4, hl1⟩ := id P1
  have HP := Lib.hid P1
  clear hb1 P1
  go_wp2_with fail
  refine (T.out _).mono ?_
  rintro x w2 ⟨rfl, hb2⟩
  have hg2 := chain hg1 hb2
  have P2 := HP.out.below hb2
  clear hb2 hg1 p0 p1 p2 p3 p4 e0 e1 e2 e3 e4 HP hl1
  obtain ⟨p0, p1, p2, p3, p4, e0, e1, e2, e3, e4, hl2⟩ := id P2
  have HP := Lib.hid P2
  clear P2
  go_wp2_with fail
  refine (A1.out _ (HS.out.below hg2)).mono ?_
  rintro x w3 ⟨rfl, hb3⟩
  have hg3 := chain hg2 hb3
  have P3 := HP.out.below hb3
  clear hb3 p0 p1 p2 p3 p4 e0 e1 e2 e3 e4 HP hl2
  obtain ⟨p0, p1, p2, p3, p4, e0, e1, e2, e3, e4, hl3⟩ := id P3
  clear P3
  go_wp2_with fail
  refine (A2.out _ (HS.out.below hg3)).mono ?_
  rintro x w4 ⟨rfl, hb4⟩
  have hg4 := chain hg3 hb4
  clear hb4 p0 p1 p2 p3 p4 e0 e1 e2 e3 e4 hl3 A1 A2
  go_wp2_with fail
  refine (B1.out _).mono ?_
  rintro x w5 ⟨rfl, hb5⟩
  have hg5 := chain hg4 hb5
  go_wp2_with fail
  refine (B2.out _).mono ?_
  rintro x w6 ⟨rfl, hb6⟩
  have hg6 := chain hg5 hb6
  go_wp2
  go_ret
  exact ⟨ret_bool (by simp), hg6⟩
theorem cells8 (a r : Bool) (F W : Int) (A : Option Addr) (n cap : Nat) (f g : Nat → Int) (s c : Int) (w : World) (hs : Cls w A n f g) (hl : n ≤ 9223372036854775807) :
    Calls Try.prog 8 #[.agg #[.bool a, .bool r, .int .i64 F, .int .i64 W, .slice A n cap], .int .i64 s, .int .i64 c] w fun x w' => x = .returned (.bool true) ∧ Below w.heap.size w w' := by
  by_cases h : 20 < n
  · exact cells_out a r F W A n cap s c w h
  · exact cells_in a r F W A n cap f g s c w hs hl (by omega)
end Go.Proofs.Ytemfjikiopcgpaa
