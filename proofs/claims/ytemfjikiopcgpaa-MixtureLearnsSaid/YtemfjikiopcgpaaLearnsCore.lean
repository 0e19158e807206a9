/-
  The core of the law MixtureLearns. No condition but the slice's shape.
-/
import Derived.Test.YtemfjikiopcgpaaLearn
set_option linter.unusedVariables false
set_option linter.unusedSimpArgs false
namespace Go.Proofs.Ytemfjikiopcgpaa
open Go.RowKit
theorem learns_out (a r : Bool) (F W : Int) (A : Option Addr) (n cap : Nat) (k : Int) (w : World) (h : 20 < n) :
    Calls Try.prog 7 #[.agg #[.bool a, .bool r, .int .i64 F, .int .i64 W, .slice A n cap], .int .i64 k] w fun x w' => x = .returned (.bool true) ∧ Below w.heap.size w w' := by
  have T := fun w => few12 a r F W A n cap w
  have h' : decide (n ≤ 20) = false := by simp; omega
  rw [h'] at T
  replace T := Lib.hid T
  clear h'
  go_enter Try.func7, Try.ntmps7
  go_wp2_with fail
  refine (awake11 _).mono ?_
  rintro x w1 ⟨rfl, hb1⟩
  have hg1 := chain (w := w) (by go_grown) hb1
  have P1 := (PV.new (w := w) rfl _ _ _ _ _ _ _).below hb1
  obtain ⟨p0, p1, p2, p3, p4, e0, e1, e2, e3, e4, hl1⟩ := id P1
  clear hb1 P1
  go_wp2_with fail
  refine (T.out _).mono ?_
  rintro x w2 ⟨rfl, hb2⟩
  have hg2 := chain hg1 hb2
  go_wp2
  go_ret
  exact ⟨rfl, hg2⟩
set_option maxRecDepth 100000 in
set_option maxHeartbeats 2000000 in
theorem learns_in (a r : Bool) (F W : Int) (A : Option Addr) (n cap : Nat) (f g : Nat → Int) (k : Int) (w : World) (hs : Cls w A n f g) (hl : n ≤ 9223372036854775807) (h : n ≤ 20) :
    Calls Try.prog 7 #[.agg #[.bool a, .bool r, .int .i64 F, .int .i64 W, .slice A n cap], .int .i64 k] w fun x w' => x = .returned (.bool true) ∧ Below w.heap.size w w' := by
  have T := fun w => few12 a r F W A n cap w
  have h' : decide (n ≤ 20) = true := by simp; omega
  rw [h'] at T
  replace T := Lib.hid T
  clear h'
  have HS := Lib.hid hs
  clear hs
  have A1 := fun w h => learn22 a r F W A n cap f g k w h hl
  have A2 := fun w h => learn23 a r F W A n cap f g k w h hl
  generalize lrE a r F W n f g k = e at A1 A2
  generalize lrF F f k.toNat = F' at A1 A2
  generalize lrf F f k.toNat = f' at A1 A2
  generalize lrg g k.toNat = g' at A1 A2
  replace A1 := Lib.hid A1
  replace A2 := Lib.hid A2
  go_enter Try.func7, Try.ntmps7
  go_wp2_with fail
  refine (awake11 _).mono ?_
  rintro x w1 ⟨rfl, hb1⟩
  have hg1 := chain (w := w) (by go_grown) hb1
  have P1 := (PV.new (w := w) rfl _ _ _ _ _ _ _).below hb1
  obtain ⟨p0, p1, p2, p3, p4, e0, e1, e2, e3, e4, hl1⟩ := id P1
  have HP := Lib.hid P1
  clear hb1 P1
  go_wp2_with fail
  refine (T.out _).mono ?_
  rintro x w2 ⟨rfl, hb2⟩
  have hg2 := chain hg1 hb2
  have P2 := HP.out.below hb2
  clear hb2 hg1 p0 p1 p2 p3 p4 e0 e1 e2 e3 e4 HP hl1
  obtain ⟨p0, p1, p2, p3, p4, e0, e1, e2, e3, e4, hl2⟩ := id P2
  have HP := Lib.hid P2
  clear P2
  go_wp2_with fail
  refine (A1.out _ (HS.out.below hg2)).mono ?_
  rintro x w3 (⟨he, b3, c3, rfl, hbb3, hbl3, hc3, hb3⟩ | ⟨he, rfl, hb3⟩)
  all_goals
    have hg3 := chain hg2 hb3
    have P3 := HP.out.below hb3
    clear hb3 p0 p1 p2 p3 p4 e0 e1 e2 e3 e4 HP hl2
    obtain ⟨p0, p1, p2, p3, p4, e0, e1, e2, e3, e4, hl3⟩ := id P3
    have HP := Lib.hid P3
    clear P3
  · subst he
    have HC3 := Lib.hid hc3
    clear hc3
    have X3 := Lib.hid (PV.new (w := w3) rfl true r F' W (some ⟨b3, 0, none⟩) 9 c3)
    go_wp2_with fail
    refine (A2.out _ (HS.out.below (by go_grown))).mono ?_
    rintro x w4 (⟨he, b4, c4, rfl, hbb4, hbl4, hc4, hb4⟩ | ⟨he, rfl, hb4⟩)
    · have HC4 := Lib.hid hc4
      have HC3' := Lib.hid ((HC3.out.below (by go_grown)).below hb4)
      clear hc4 HC3 he
      have hg4 := chain (w := w) (w1 := w3.alloc (.cells #[.bool true, .bool r, .int .i64 F', .int .i64 W, .slice (some ⟨b3, 0, none⟩) 9 c3] 24)) (by go_grown) hb4
      have X4 := X3.out.below hb4
      clear X3 hb4 p0 p1 p2 p3 p4 e0 e1 e2 e3 e4 HP hl3 A1 A2 T HS
      obtain ⟨p0, p1, p2, p3, p4, e0, e1, e2, e3, e4, hl4⟩ := id X4
      clear X4
      go_wp2_with fail
      refine (same15 _ _ _ _ _ _ _ _ _ _ _ _ (HC3'.out.below (by go_grown)) (HC4.out.below (by go_grown)) (by omega)).mono ?_
      rintro x w5 ⟨rfl, hb5⟩
      have hg5 := chain (w := w) (hg4.alloc hg4.size _) hb5
      clear hb5
      go_wp2
      go_ret
      exact ⟨ret_bool (by simp), hg5⟩
    · exact absurd rfl he
  · have HE := Lib.hid he
    clear he
    have X3 := Lib.hid (PV.new (w := w3) rfl false false 0 0 none 0 0)
    go_wp2_with fail
    refine (A2.out _ (HS.out.below (by go_grown))).mono ?_
    rintro x w4 (⟨he, b4, c4, rfl, hbb4, hbl4, hc4, hb4⟩ | ⟨he, rfl, hb4⟩)
    · exact absurd he HE.out
    · clear he
      have hg4 := chain (w := w) (w1 := w3.alloc (.cells #[.bool false, .bool false, .int .i64 0, .int .i64 0, .slice none 0 0] 24)) (by go_grown) hb4
      have X4 := X3.out.below hb4
      clear X3 hb4 p0 p1 p2 p3 p4 e0 e1 e2 e3 e4 HP hl3 A1 A2 T HS
      obtain ⟨p0, p1, p2, p3, p4, e0, e1, e2, e3, e4, hl4⟩ := id X4
      clear X4
      go_wp2_with fail
      refine (same15 _ _ _ _ _ _ _ _ _ (fun _ => 0) (fun _ => 0) _ (fun h => absurd h (Nat.lt_irrefl 0)) (fun h => absurd h (Nat.lt_irrefl 0)) (by omega)).mono ?_
      rintro x w5 ⟨rfl, hb5⟩
      have hg5 := chain (w := w) (hg4.alloc hg4.size _) hb5
      clear hb5
      go_wp2
      go_ret
      exact ⟨ret_bool (by simp), hg5⟩
theorem learns7 (a r : Bool) (F W : Int) (A : Option Addr) (n cap : Nat) (f g : Nat → Int) (k : Int) (w : World) (hs : Cls w A n f g) (hl : n ≤ 9223372036854775807) :
    Calls Try.prog 7 #[.agg #[.bool a, .bool r, .int .i64 F, .int .i64 W, .slice A n cap], .int .i64 k] w fun x w' => x = .returned (.bool true) ∧ Below w.heap.size w w' := by
  by_cases h : 20 < n
  · exact learns_out a r F W A n cap k w h
  · exact learns_in a r F W A n cap f g k w hs hl (by omega)
end Go.Proofs.Ytemfjikiopcgpaa
