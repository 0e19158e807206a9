/-
  The core of the law MixtureSides. No condition but the slice's shape.
-/
import Derived.Test.YtemfjikiopcgpaaAwake
set_option linter.unusedVariables false
namespace Go.Proofs.Ytemfjikiopcgpaa
open Go.RowKit
/-- what a step of an active state does to the factor and to the count -/
theorem went {r b : Bool} {F W M : Int} (hb : nxR r M = b) (F0 : 750 ≤ F) (F1 : F ≤ 1250) :
    (b = r → stepW true r W M = min 1000 (W + 1) ∧ ((b = true ∧ (stepF true r F M = F - 1 ∨ (stepF true r F M = 750 ∧ F = 750))) ∨ (b = false ∧ (stepF true r F M = F + 1 ∨ (stepF true r F M = 1250 ∧ F = 1250))))) ∧
    (b ≠ r → stepW true r W M = 0 ∧ ((b = true ∧ (stepF true r F M = F - 15 ∨ (stepF true r F M = 750 ∧ F < 765))) ∨ (b = false ∧ (stepF true r F M = F + 15 ∨ (stepF true r F M = 1250 ∧ 1235 < F))))) := by
  unfold stepW stepF
  simp only [if_true, hb]
  cases b <;> cases r <;> simp [clamp] <;> omega
theorem sides_out (a r : Bool) (F W : Int) (A : Option Addr) (n cap : Nat) (f g : Nat → Int) (m : Int) (w : World) (hs : Cls w A n f g) (hl : n ≤ 9223372036854775807) (h : 20 < n ∨ okP a r F W n f g = false ∨ a = false) (m0 : 0 ≤ m) (m1 : m ≤ 65535) :
    Calls Try.prog 5 #[.agg #[.bool a, .bool r, .int .i64 F, .int .i64 W, .slice A n cap], .int .u16 m] w fun x w' => x = .returned (.bool true) ∧ Below w.heap.size w w' := by
  have V := fun w h => valid16 a r F W A n cap f g w h hl
  have T := fun w => few12 a r F W A n cap w
  generalize okP a r F W n f g = o at V h
  have h' : decide (n ≤ 20) = false ∨ (decide (n ≤ 20) = true ∧ (o = false ∨ (o = true ∧ a = false))) := by
    by_cases h1 : n ≤ 20
    · refine .inr ⟨by simp [h1], ?_⟩
      rcases h with h | h | h
      · omega
      · exact .inl h
      · cases o
        · exact .inl rfl
        · exact .inr ⟨rfl, h⟩
    · exact .inl (by simp [h1])
  generalize decide (n ≤ 20) = t at T h'
  have HS := Lib.hid hs
  have V := Lib.hid V
  have T := Lib.hid T
  clear hs h
  have start : ∀ (Q : Prop), Q → Q := fun _ h => h
  rcases h' with rfl | ⟨rfl, rfl | ⟨rfl, rfl⟩⟩
  all_goals
    go_enter Try.func5, Try.ntmps5
    go_wp2_with fail
    refine (awake11 _).mono ?_
    rintro x w1 ⟨rfl, hb1⟩
    have hg1 := chain (w := w) (by go_grown) hb1
    have P1 := (PV.new (w := w) rfl _ _ _ _ _ _ _).below hb1
    obtain ⟨p0, p1, p2, p3, p4, e0, e1, e2, e3, e4, hl1⟩ := id P1
    have HP := Lib.hid P1
    clear hb1 P1
    go_wp2_with fail
    refine (T.out _).mono ?_
    rintro x w2 ⟨rfl, hb2⟩
    have hg2 := chain hg1 hb2
    have P2 := HP.out.below hb2
    clear hb2 hg1 p0 p1 p2 p3 p4 e0 e1 e2 e3 e4 HP hl1
    obtain ⟨p0, p1, p2, p3, p4, e0, e1, e2, e3, e4, hl2⟩ := id P2
    have HP := Lib.hid P2
    clear P2
  · go_wp2
    go_ret
    exact ⟨rfl, hg2⟩
  all_goals
    go_wp2_with fail
    refine (V.out _ (HS.out.below hg2)).mono ?_
    rintro x w3 ⟨rfl, hb3⟩
    have hg3 := chain hg2 hb3
    have P2 := HP.out.below hb3
    clear hb3 hg2 p0 p1 p2 p3 p4 e0 e1 e2 e3 e4 HP hl2
    obtain ⟨p0, p1, p2, p3, p4, e0, e1, e2, e3, e4, hl3⟩ := id P2
    clear P2
    go_wp2
    go_ret
    exact ⟨rfl, hg3⟩
set_option maxRecDepth 100000 in
set_option maxHeartbeats 2000000 in
theorem sides_in (r : Bool) (F W : Int) (A : Option Addr) (cap : Nat) (f g : Nat → Int) (m : Int) (w : World) (hs : Cls w A 9 f g) (h : okP true r F W 9 f g = true) (m0 : 0 ≤ m) (m1 : m ≤ 65535) :
    Calls Try.prog 5 #[.agg #[.bool true, .bool r, .int .i64 F, .int .i64 W, .slice A 9 cap], .int .u16 m] w fun x w' => x = .returned (.bool true) ∧ Below w.heap.size w w' := by
  have V := fun w h => valid16 true r F W A 9 cap f g w h (by omega)
  have T := fun w => few12 true r F W A 9 cap w
  rw [h] at V
  obtain ⟨F0, F1, W0, W1, _, _, _⟩ := okP_bd h
  obtain ⟨M, hM⟩ : ∃ M, M = m % 20001 := ⟨_, rfl⟩
  have M0 : 0 ≤ M ∧ M ≤ 20000 := by omega
  obtain ⟨b, hb⟩ : ∃ b, nxR r M = b := ⟨_, rfl⟩
  obtain ⟨F', hF'⟩ : ∃ F', F' = stepF true r F M := ⟨_, rfl⟩
  obtain ⟨W', hW'⟩ : ∃ W', W' = stepW true r W M := ⟨_, rfl⟩
  have A13 := Lib.hid (fun w h0 => step_run true r F W A cap f g M 0 0 w true b F' W' h0 h (by rw [inB_mk M0.1 M0.2]; decide) (by simp [stepA]) (by simp [stepR, hb]) hF' hW')
  have G := @went r b F W M hb F0 F1
  rw [← hF', ← hW'] at G
  have F2 : 750 ≤ F' ∧ F' ≤ 1250 := by rw [hF']; unfold stepF clamp; simp; omega
  replace hM := hM.symm
  have HS := Lib.hid hs
  replace V := Lib.hid V
  replace T := Lib.hid T
  clear hs h hb hF' hW'
  have key : (b = r ∧ W' = min 1000 (W + 1) ∧ ((b = true ∧ F' - F = -1) ∨ (b = true ∧ F' = 750 ∧ F = 750) ∨ (b = false ∧ F' - F = 1) ∨ (b = false ∧ F' = 1250 ∧ F = 1250))) ∨
      (b = !r ∧ W' = 0 ∧ ((b = true ∧ F' - F = -15) ∨ (b = true ∧ F' = 750 ∧ F < 765) ∨ (b = false ∧ F' - F = 15) ∨ (b = false ∧ F' = 1250 ∧ 1235 < F))) := by
    obtain ⟨g1, g2⟩ := G
    by_cases e : b = r
    · obtain ⟨k1, k2⟩ := g1 e
      refine .inl ⟨e, k1, ?_⟩
      rcases k2 with ⟨k3, k4 | ⟨k4, k5⟩⟩ | ⟨k3, k4 | ⟨k4, k5⟩⟩
      · exact .inl ⟨k3, by omega⟩
      · exact .inr (.inl ⟨k3, k4, k5⟩)
      · exact .inr (.inr (.inl ⟨k3, by omega⟩))
      · exact .inr (.inr (.inr ⟨k3, k4, k5⟩))
    · obtain ⟨k1, k2⟩ := g2 e
      refine .inr ⟨by cases b <;> cases r <;> simp_all, k1, ?_⟩
      rcases k2 with ⟨k3, k4 | ⟨k4, k5⟩⟩ | ⟨k3, k4 | ⟨k4, k5⟩⟩
      · exact .inl ⟨k3, by omega⟩
      · exact .inr (.inl ⟨k3, k4, k5⟩)
      · exact .inr (.inr (.inl ⟨k3, by omega⟩))
      · exact .inr (.inr (.inr ⟨k3, k4, k5⟩))
  clear G
  have HK := Lib.hid key
  clear key
  go_enter Try.func5, Try.ntmps5
  go_wp2_with fail
  refine (awake11 _).mono ?_
  rintro x w1 ⟨rfl, hb1⟩
  have hg1 := chain (w := w) (by go_grown) hb1
  have P1 := (PV.new (w := w) rfl _ _ _ _ _ _ _).below hb1
  obtain ⟨p0, p1, p2, p3, p4, e0, e1, e2, e3, e4, hl1⟩ := id P1
  have HP := Lib.hid P1
  clear hb1 P1
  go_wp2_with fail
  refine (T.out _).mono ?_
  rintro x w2 ⟨rfl, hb2⟩
  have hg2 := chain hg1 hb2
  have P2 := HP.out.below hb2
  clear hb2 hg1 p0 p1 p2 p3 p4 e0 e1 e2 e3 e4 HP hl1
  obtain ⟨p0, p1, p2, p3, p4, e0, e1, e2, e3, e4, hl2⟩ := id P2
  have HP := Lib.hid P2
  clear P2
  go_wp2_with fail
  refine (V.out _ (HS.out.below hg2)).mono ?_
  rintro x w3 ⟨rfl, hb3⟩
  have hg3 := chain hg2 hb3
  have P3 := HP.out.below hb3
  clear hb3 hg2 p0 p1 p2 p3 p4 e0 e1 e2 e3 e4 HP hl2
  obtain ⟨p0, p1, p2, p3, p4, e0, e1, e2, e3, e4, hl3⟩ := id P3
  have HP := Lib.hid P3
  clear P3
  go_wp2_with fail
  refine (A13.out _ (HS.out.below hg3)).mono ?_
  rintro x w4 ⟨b4, c4, rfl, hb4a, hb4b, hc4, hb4⟩
  have hg4 := chain hg3 hb4
  have P4 := HP.out.below hb4
  clear hb4 hg3 p0 p1 p2 p3 p4 e0 e1 e2 e3 e4 HP hl3 hc4 V T A13 HS
  obtain ⟨p0, p1, p2, p3, p4, e0, e1, e2, e3, e4, hl4⟩ := id P4
  clear P4
  rcases HK.out with ⟨rfl, hW, hk⟩ | ⟨rfl, rfl, hk⟩
  · rcases (by omega : (W = 1000 ∧ W' = 1000) ∨ (W = 999 ∧ W' = 1000) ∨ (W < 999 ∧ W' = W + 1)) with ⟨rfl, rfl⟩ | ⟨rfl, rfl⟩ | ⟨kW, rfl⟩
    all_goals
      clear HK hW
      rcases hk with ⟨rfl, hd⟩ | ⟨rfl, rfl, rfl⟩ | ⟨rfl, hd⟩ | ⟨rfl, rfl, rfl⟩
    all_goals
      go_wp2_with fail
    all_goals first | (exfalso; omega) | (go_ret; exact ⟨rfl, by go_grown⟩) | (go_ret; refine ⟨ret_bool ?_, by go_grown⟩; simp; omega)
  · clear HK
    cases r
    all_goals
      simp only [Bool.not_true, Bool.not_false] at hk p1 ⊢
      rcases hk with ⟨hh, hd⟩ | ⟨hh, rfl, hd⟩ | ⟨hh, hd⟩ | ⟨hh, rfl, hd⟩
    all_goals first | (cases hh; done) | skip
    all_goals
      clear hh
      go_wp2_with fail
    all_goals first | (exfalso; omega) | (go_ret; exact ⟨rfl, by go_grown⟩) | (go_ret; refine ⟨ret_bool ?_, by go_grown⟩; simp; omega)
theorem sides5 (a r : Bool) (F W : Int) (A : Option Addr) (n cap : Nat) (f g : Nat → Int) (m : Int) (w : World) (hs : Cls w A n f g) (hl : n ≤ 9223372036854775807) (m0 : 0 ≤ m) (m1 : m ≤ 65535) :
    Calls Try.prog 5 #[.agg #[.bool a, .bool r, .int .i64 F, .int .i64 W, .slice A n cap], .int .u16 m] w fun x w' => x = .returned (.bool true) ∧ Below w.heap.size w w' := by
  by_cases h : 20 < n ∨ okP a r F W n f g = false ∨ a = false
  · exact sides_out a r F W A n cap f g m w hs hl h m0 m1
  · have h1 : okP a r F W n f g = true := by
      cases e : okP a r F W n f g
      · exact absurd (.inr (.inl e)) h
      · rfl
    have h2 : a = true := by
      cases e : a
      · exact absurd (.inr (.inr e)) h
      · rfl
    subst h2
    obtain ⟨_, _, _, _, rfl, _⟩ := okP_bd h1
    exact sides_in r F W A cap f g m w hs h1 m0 m1
end Go.Proofs.Ytemfjikiopcgpaa
