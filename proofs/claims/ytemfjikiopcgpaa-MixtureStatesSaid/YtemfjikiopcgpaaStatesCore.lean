/-
  The core of the law MixtureStates. No condition but the slice's shape.
-/
import Derived.Test.YtemfjikiopcgpaaOpens
set_option linter.unusedVariables false
set_option linter.unusedSimpArgs false
namespace Go.Proofs.Ytemfjikiopcgpaa
open Go.RowKit
theorem states_out (a r : Bool) (F W : Int) (A : Option Addr) (n cap : Nat) (w : World) (h : 20 < n) :
    Calls Try.prog 6 #[.agg #[.bool a, .bool r, .int .i64 F, .int .i64 W, .slice A n cap]] w fun x w' => x = .returned (.bool true) ∧ Below w.heap.size w w' := by
  have T := fun w => few12 a r F W A n cap w
  have h' : decide (n ≤ 20) = false := by simp; omega
  rw [h'] at T
  replace T := Lib.hid T
  clear h'
  go_enter Try.func6, Try.ntmps6
  go_wp2_with fail
  refine (awake11 _).mono ?_
  rintro x w1 ⟨rfl, hb1⟩
  have hg1 := chain (w := w) (by go_grown) hb1
  have P1 := (PV.new (w := w) rfl _ _ _ _ _ _ _).below hb1
  obtain ⟨p0, p1, p2, p3, p4, e0, e1, e2, e3, e4, hl1⟩ := id P1
  clear hb1 P1
  go_wp2_with fail
  refine (T.out _).mono ?_
  rintro x w2 ⟨rfl, hb2⟩
  have hg2 := chain hg1 hb2
  go_wp2
  go_ret
  exact ⟨rfl, hg2⟩
theorem Kp.bl {w8 W : World} (h : (∀ b o, b < w8.heap.size → W.cell? ⟨b, o, none⟩ = w8.cell? ⟨b, o, none⟩) ∧ Below w8.heap.size w8 W) : Below w8.heap.size w8 W := h.2
set_option maxRecDepth 100000 in
set_option maxHeartbeats 8000000 in
theorem states_in (a r : Bool) (F W : Int) (A : Option Addr) (n cap : Nat) (f g : Nat → Int) (w : World) (hs : Cls w A n f g) (hl : n ≤ 9223372036854775807) (h : n ≤ 20) :
    Calls Try.prog 6 #[.agg #[.bool a, .bool r, .int .i64 F, .int .i64 W, .slice A n cap]] w fun x w' => x = .returned (.bool true) ∧ Below w.heap.size w w' := by
  have T := fun w => few12 a r F W A n cap w
  have h' : decide (n ≤ 20) = true := by simp; omega
  rw [h'] at T
  replace T := Lib.hid T
  clear h'
  have HS := Lib.hid hs
  clear hs
  have A1 := fun w h => open19 a r F W A n cap f g w h hl
  have A2 := fun w h => open20 a r F W A n cap f g w h hl
  have B1 := fun w h => valid16 a r F W A n cap f g w h hl
  have B2 := fun w h => valid21 a r F W A n cap f g w h hl
  generalize (if okP a r F W n f g then f else fun _ => 0) = f' at A1 A2
  generalize (if okP a r F W n f g then g else fun _ => 0) = g' at A1 A2
  generalize okP a r F W n f g = o at B1 B2
  replace A1 := Lib.hid A1
  replace A2 := Lib.hid A2
  replace B1 := Lib.hid B1
  replace B2 := Lib.hid B2
  go_enter Try.func6, Try.ntmps6
  go_wp2_with fail
  refine (awake11 _).mono ?_
  rintro x w1 ⟨rfl, hb1⟩
  have hg1 := chain (w := w) (by go_grown) hb1
  have P1 := (PV.new (w := w) rfl _ _ _ _ _ _ _).below hb1
  obtain ⟨p0, p1, p2, p3, p4, e0, e1, e2, e3, e4, hl1⟩ := id P1
  have HP := Lib.hid P1
  clear hb1 P1
  go_wp2_with fail
  refine (T.out _).mono ?_
  rintro x w2 ⟨rfl, hb2⟩
  have hg2 := chain hg1 hb2
  have P2 := HP.out.below hb2
  clear hb2 hg1 p0 p1 p2 p3 p4 e0 e1 e2 e3 e4 HP hl1
  obtain ⟨p0, p1, p2, p3, p4, e0, e1, e2, e3, e4, hl2⟩ := id P2
  have HP := Lib.hid P2
  clear P2
  go_wp2_with fail
  have HC := Lib.hid (HS.out.below hg2)
  clear HS T HP e0 e1 e2 e3 e4
  go_region_held3 (fun W' => (∀ b o, b < w2.heap.size → W'.cell? ⟨b, o, none⟩ = w2.cell? ⟨b, o, none⟩) ∧ Below w2.heap.size w2 W')
    (first | exact Kp.mk (Below.refl _ _).drew | assumption | (refine Kp.next ?_ hb17; assumption) | (refine Kp.next ?_ hb18; assumption) | (refine Kp.next ?_ hb19; assumption) | (refine Kp.next ?_ hb20; assumption) | (refine Kp.next ?_ hb15; assumption) | (refine Kp.next ?_ hb15'; assumption) | (refine Kp.next ?_ hb16; assumption) | (refine Kp.next ?_ hb21; assumption))
    (first | (go_at_call 17; refine (new17 _).mono ?_; rintro x w17 ⟨b17, rfl, hbb17, hbl17, hc17, hb17⟩) | (go_at_call 18; refine (new18 _).mono ?_; rintro x w18 ⟨b18, rfl, hbb18, hbl18, hc18, hb18⟩) | (go_at_call 15; refine (same15 _ _ _ _ _ _ _ _ _ (fun _ => 0) (fun _ => 0) _ ?_ ?_ (by omega)).mono ?_; (first | assumption | (apply Cls.below <;> assumption)); (first | assumption | (apply Cls.below <;> assumption)); rintro x w15 ⟨rfl, hb15⟩) | (go_at_call 19; refine (A1.out _ (HC.out.below (Kp.bl ?_))).mono ?_; assumption; rintro x w19 ⟨b19, c19, rfl, hbb19, hbl19, hc19, hb19⟩) | (go_at_call 20; refine (A2.out _ (HC.out.below (Kp.bl ?_))).mono ?_; assumption; rintro x w20 ⟨b20, c20, rfl, hbb20, hbl20, hc20, hb20⟩) | (go_at_call 15; refine (same15 _ _ _ _ _ _ _ _ _ f' g' _ ?_ ?_ (by omega)).mono ?_; (first | assumption | (apply Cls.below <;> assumption)); (first | assumption | (apply Cls.below <;> assumption)); rintro x w15' ⟨rfl, hb15'⟩) | (go_at_call 16; refine (B1.out _ (HC.out.below (Kp.bl ?_))).mono ?_; assumption; rintro x w16 ⟨rfl, hb16⟩) | (go_at_call 21; refine (B2.out _ (HC.out.below (Kp.bl ?_))).mono ?_; assumption; rintro x w21 ⟨rfl, hb21⟩))
  all_goals
    rename_i hh
    have hg := chain hg2 hh.2
    go_wp2
    go_ret
    exact ⟨ret_bool (by simp), hg⟩
theorem states6 (a r : Bool) (F W : Int) (A : Option Addr) (n cap : Nat) (f g : Nat → Int) (w : World) (hs : Cls w A n f g) (hl : n ≤ 9223372036854775807) :
    Calls Try.prog 6 #[.agg #[.bool a, .bool r, .int .i64 F, .int .i64 W, .slice A n cap]] w fun x w' => x = .returned (.bool true) ∧ Below w.heap.size w w' := by
  by_cases h : 20 < n
  · exact states_out a r F W A n cap w h
  · exact states_in a r F W A n cap f g w hs hl (by omega)
end Go.Proofs.Ytemfjikiopcgpaa
