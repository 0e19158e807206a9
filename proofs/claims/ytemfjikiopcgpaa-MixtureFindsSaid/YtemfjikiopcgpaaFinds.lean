/-
  The core of the law MixtureFinds. No condition but the slice's shape.
-/
import Derived.Test.YtemfjikiopcgpaaAwake
set_option linter.unusedVariables false
namespace Go.Proofs.Ytemfjikiopcgpaa
open Go.RowKit
theorem okP_mk {a r : Bool} {F W : Int} {f g : Nat → Int} (h1 : 750 ≤ F) (h2 : F ≤ 1250) (h3 : 0 ≤ W) (h4 : W ≤ 1000) (h5 : a = true ∨ (F = 1000 ∧ W = 0 ∧ r = false)) (h6 : allC f g 9 = true) : okP a r F W 9 f g = true := by
  unfold okP
  rw [inB_mk h1 h2, inB_mk h3 h4, h6]
  rcases h5 with rfl | ⟨rfl, rfl, rfl⟩ <;> simp
theorem step_valid {a r : Bool} {F W mv : Int} {f g : Nat → Int} (h : okP a r F W 9 f g = true) : okP (stepA a mv) (stepR a r mv) (stepF a r F mv) (stepW a r W mv) 9 f g = true := by
  obtain ⟨F0, F1, W0, W1, _, ha, hc⟩ := okP_bd h
  cases a
  · obtain ⟨rfl, rfl, rfl⟩ : F = 1000 ∧ W = 0 ∧ r = false := by simpa using ha
    refine okP_mk (by simp [stepF]) (by simp [stepF]) (by simp [stepW]) (by simp [stepW]) ?_ hc
    by_cases h1 : mv < 300
    · left; simp [stepA, h1]
    · by_cases h2 : 600 < mv
      · left; simp [stepA, h2]
      · right; simp [stepF, stepW, stepR, h2]
  · refine okP_mk ?_ ?_ ?_ ?_ (.inl (by simp [stepA])) hc
    · simp [stepF, clamp]; omega
    · simp [stepF, clamp]; omega
    · simp only [stepW, if_true]; split <;> omega
    · simp only [stepW, if_true]; split <;> omega
def near (F T : Int) (k : Nat) : Prop := (-14 ≤ F - T ∧ F - T ≤ 15) ∨ (F - T ≤ 401 - k ∧ T - F ≤ 401 - k)
theorem near_step {a r : Bool} {F W T mv : Int} {f g : Nat → Int} {k : Nat} (h : okP a r F W 9 f g = true) (hT : 800 ≤ T ∧ T ≤ 1200) (ha : a = false → k = 0) (h0 : k = 0 → F - T ≤ 400 ∧ T - F ≤ 400) (hn : near F T k) (hmv : (T < F ∧ 601 ≤ mv) ∨ (F ≤ T ∧ mv < 300)) :
    near (stepF a r F mv) T (k + 1) ∧ stepA a mv = true := by
  obtain ⟨F0, F1, _, _, _, _, _⟩ := okP_bd h
  cases a
  · have hk := ha rfl
    have := h0 hk
    subst hk
    refine ⟨.inr ?_, ?_⟩
    · simp [stepF]; omega
    · rcases hmv with ⟨_, h⟩ | ⟨_, h⟩
      · have h' : 600 < mv := by omega
        simp [stepA, h']
      · simp [stepA, h]
  · refine ⟨?_, by simp [stepA]⟩
    have hb : nxR r mv = decide (T < F) := by
      rcases hmv with ⟨h1, h2⟩ | ⟨h1, h2⟩
      · have h' : 500 < mv := by omega
        simp [nxR, h', h1]
      · have h' : ¬ 500 < mv := by omega
        have h'' : ¬ 400 ≤ mv := by omega
        have h3 : ¬ T < F := by omega
        simp [nxR, h', h'', h3]
    unfold near at hn ⊢
    unfold stepF clamp
    simp only [if_true, hb]
    by_cases h1 : T < F
    · rw [if_pos (by simpa using h1)]
      by_cases h2 : decide (T < F) = r
      · rw [if_pos h2]; omega
      · rw [if_neg h2]; omega
    · rw [if_neg (by simpa using h1)]
      by_cases h2 : decide (T < F) = r
      · rw [if_pos h2]; omega
      · rw [if_neg h2]; omega
theorem finds_out (a r : Bool) (F W : Int) (A : Option Addr) (n cap : Nat) (f g : Nat → Int) (i x1 x2 : Int) (w : World) (hs : Cls w A n f g) (hl : n ≤ 9223372036854775807) (h : 20 < n ∨ okP a r F W n f g = false ∨ F < 800 ∨ 1200 < F) :
    Calls Try.prog 4 #[.agg #[.bool a, .bool r, .int .i64 F, .int .i64 W, .slice A n cap], .int .u16 i, .int .u16 x1, .int .u16 x2] w fun x w' => x = .returned (.bool true) ∧ Below w.heap.size w w' := by
  have V := fun w h => valid16 a r F W A n cap f g w h hl
  have T := fun w => few12 a r F W A n cap w
  generalize okP a r F W n f g = o at V h
  have h' : decide (n ≤ 20) = false ∨ (decide (n ≤ 20) = true ∧ (o = false ∨ (o = true ∧ F < 800) ∨ (o = true ∧ 800 ≤ F ∧ 1200 < F))) := by
    by_cases h1 : n ≤ 20
    · refine .inr ⟨by simp [h1], ?_⟩
      rcases h with h | h | h | h
      · omega
      · exact .inl h
      · cases o
        · exact .inl rfl
        · exact .inr (.inl ⟨rfl, h⟩)
      · cases o
        · exact .inl rfl
        · by_cases h8 : F < 800
          · exact .inr (.inl ⟨rfl, h8⟩)
          · exact .inr (.inr ⟨rfl, by omega, h⟩)
    · exact .inl (by simp [h1])
  generalize decide (n ≤ 20) = t at T h'
  have HS := Lib.hid hs
  have V := Lib.hid V
  have T := Lib.hid T
  clear hs h
  have start : ∀ (Q : Prop), Q → Q := fun _ h => h
  rcases h' with rfl | ⟨rfl, rfl | ⟨rfl, kF⟩ | ⟨rfl, kF1, kF2⟩⟩
  all_goals
    go_enter Try.func4, Try.ntmps4
    go_wp2_with fail
    refine (awake11 _).mono ?_
    rintro x w1 ⟨rfl, hb1⟩
    have hg1 := chain (w := w) (by go_grown) hb1
    have P1 := (PV.new (w := w) rfl _ _ _ _ _ _ _).below hb1
    obtain ⟨p0, p1, p2, p3, p4, e0, e1, e2, e3, e4, hl1⟩ := id P1
    have HP := Lib.hid P1
    clear hb1 P1
    go_wp2_with fail
    refine (T.out _).mono ?_
    rintro x w2 ⟨rfl, hb2⟩
    have hg2 := chain hg1 hb2
    have P2 := HP.out.below hb2
    clear hb2 hg1 p0 p1 p2 p3 p4 e0 e1 e2 e3 e4 HP hl1
    obtain ⟨p0, p1, p2, p3, p4, e0, e1, e2, e3, e4, hl2⟩ := id P2
    have HP := Lib.hid P2
    clear P2
  · go_wp2
    go_ret
    exact ⟨rfl, hg2⟩
  all_goals
    go_wp2_with fail
    refine (V.out _ (HS.out.below hg2)).mono ?_
    rintro x w3 ⟨rfl, hb3⟩
    have hg3 := chain hg2 hb3
    have P2 := HP.out.below hb3
    clear hb3 hg2 p0 p1 p2 p3 p4 e0 e1 e2 e3 e4 HP hl2
    obtain ⟨p0, p1, p2, p3, p4, e0, e1, e2, e3, e4, hl3⟩ := id P2
    clear P2
    go_wp2
    go_ret
    exact ⟨rfl, hg3⟩
set_option maxRecDepth 100000 in
set_option maxHeartbeats 4000000 in
theorem finds_in (a r : Bool) (F W : Int) (A : Option Addr) (cap : Nat) (f g : Nat → Int) (i x1 x2 : Int) (w : World) (hs : Cls w A 9 f g) (h : okP a r F W 9 f g = true) (hF : 800 ≤ F ∧ F ≤ 1200) (hi : 0 ≤ i ∧ i ≤ 65535) (h1 : 0 ≤ x1 ∧ x1 ≤ 65535) (h2 : 0 ≤ x2 ∧ x2 ≤ 65535) :
    Calls Try.prog 4 #[.agg #[.bool a, .bool r, .int .i64 F, .int .i64 W, .slice A 9 cap], .int .u16 i, .int .u16 x1, .int .u16 x2] w fun x w' => x = .returned (.bool true) ∧ Below w.heap.size w w' := by
  have V := fun w h => valid16 a r F W A 9 cap f g w h (by omega)
  have T := fun w => few12 a r F W A 9 cap w
  rw [h] at V
  have HOK := Lib.hid h
  obtain ⟨J, hJ⟩ : ∃ J, i % 401 = J := ⟨_, rfl⟩
  obtain ⟨H, hH⟩ : ∃ H, x1 % 5000 = H := ⟨_, rfl⟩
  obtain ⟨L, hL⟩ : ∃ L, x2 % 300 = L := ⟨_, rfl⟩
  have J0 : 0 ≤ J ∧ J ≤ 400 := by omega
  have H0 : 0 ≤ H ∧ H ≤ 4999 := by omega
  have L0 : 0 ≤ L ∧ L ≤ 299 := by omega
  have HS := Lib.hid hs
  replace V := Lib.hid V
  replace T := Lib.hid T
  clear h hs
  go_enter Try.func4, Try.ntmps4
  go_wp2_with fail
  refine (awake11 _).mono ?_
  rintro x w1 ⟨rfl, hb1⟩
  have hg1 := chain (w := w) (by go_grown) hb1
  have P1 := (PV.new (w := w) rfl _ _ _ _ _ _ _).below hb1
  obtain ⟨p0, p1, p2, p3, p4, e0, e1, e2, e3, e4, hl1⟩ := id P1
  have HP := Lib.hid P1
  clear hb1 P1
  go_wp2_with fail
  refine (T.out _).mono ?_
  rintro x w2 ⟨rfl, hb2⟩
  have hg2 := chain hg1 hb2
  have P2 := HP.out.below hb2
  clear hb2 hg1 p0 p1 p2 p3 p4 e0 e1 e2 e3 e4 HP hl1
  obtain ⟨p0, p1, p2, p3, p4, e0, e1, e2, e3, e4, hl2⟩ := id P2
  have HP := Lib.hid P2
  clear P2
  go_wp2_with fail
  refine (V.out _ (HS.out.below hg2)).mono ?_
  rintro x w3 ⟨rfl, hb3⟩
  have hg3 := chain hg2 hb3
  have P3 := HP.out.below hb3
  clear hb3 hg2 p0 p1 p2 p3 p4 e0 e1 e2 e3 e4 HP hl2
  obtain ⟨p0, p1, p2, p3, p4, e0, e1, e2, e3, e4, hl3⟩ := id P3
  have HP := Lib.hid P3
  obtain ⟨b0, o0, rfl, hb0, _⟩ := HS.out (by omega)
  have HC := Lib.hid (HS.out.below hg3)
  clear P3 V T HS
  go_wp2_with fail
  go_loopg [39] 500 (fun gk ix wr => ∃ (k : Nat) (a r : Bool) (F W : Int) (b o c : Nat), k ≤ 500 ∧ 500 - k ≤ gk ∧ ix = .int .i64 k ∧ PV w.heap.size wr a r F W (some ⟨b, o, none⟩) 9 c ∧ b ≠ w.heap.size ∧ Cls wr (some ⟨b, o, none⟩) 9 f g ∧ Below w.heap.size w wr ∧
      Hid (okP a r F W 9 f g = true ∧ (a = false → k = 0) ∧ (k = 0 → F - (800 + J) ≤ 400 ∧ (800 + J) - F ≤ 400) ∧ near F (800 + J) k))
  case atStart =>
    exact ⟨0, a, r, F, W, b0, o0, cap, by omega, by omega, rfl, HP.out, by omega, HC.out, hg3, HOK.out, fun _ => rfl, fun _ => by omega, .inr (by omega)⟩
  case round =>
    clear HOK hF p0 p1 p2 p3 p4 e0 e1 e2 e3 e4 HP HC hl3 hg3
    obtain ⟨k, a, r, F, W, b, o, c, hk, hgk, rfl, hP, hne, hC, hg, HQ⟩ := hrel
    by_cases hlt : k < 500
    · obtain ⟨p0, p1, p2, p3, p4, e0, e1, e2, e3, e4, hl⟩ := id hP
      replace hP := Lib.hid hP
      replace hC := Lib.hid hC
      obtain ⟨F0, F1, W0, W1, _, _, _⟩ := okP_bd HQ.out.1
      rcases (by omega : 800 + J < F ∨ F ≤ 800 + J) with hTF | hTF
      all_goals
        first
        | (have A13 := Lib.hid (fun w h0 => step_run a r F W (some ⟨b, o, none⟩) c f g (601 + H) 2000 100000 w true (stepR a r (601 + H)) (stepF a r F (601 + H)) (stepW a r W (601 + H)) h0 HQ.out.1 (by rw [inB_mk (by omega) (by omega)]; decide) (near_step HQ.out.1 (by omega) HQ.out.2.1 HQ.out.2.2.1 HQ.out.2.2.2 (.inl ⟨hTF, by omega⟩)).2.symm rfl rfl rfl)
           have HN := Lib.hid (And.intro (step_valid (mv := 601 + H) HQ.out.1) (near_step HQ.out.1 (by omega) HQ.out.2.1 HQ.out.2.2.1 HQ.out.2.2.2 (.inl ⟨hTF, by omega⟩) : near (stepF a r F (601 + H)) (800 + J) (k + 1) ∧ stepA a (601 + H) = true))
           generalize stepR a r (601 + H) = r' at A13 HN
           generalize stepF a r F (601 + H) = F' at A13 HN
           generalize stepW a r W (601 + H) = W' at A13 HN)
        | (have A13 := Lib.hid (fun w h0 => step_run a r F W (some ⟨b, o, none⟩) c f g L 2000 100000 w true (stepR a r L) (stepF a r F L) (stepW a r W L) h0 HQ.out.1 (by rw [inB_mk (by omega) (by omega)]; decide) (near_step HQ.out.1 (by omega) HQ.out.2.1 HQ.out.2.2.1 HQ.out.2.2.2 (.inr ⟨hTF, by omega⟩)).2.symm rfl rfl rfl)
           have HN := Lib.hid (And.intro (step_valid (mv := L) HQ.out.1) (near_step HQ.out.1 (by omega) HQ.out.2.1 HQ.out.2.2.1 HQ.out.2.2.2 (.inr ⟨hTF, by omega⟩) : near (stepF a r F L) (800 + J) (k + 1) ∧ stepA a L = true))
           generalize stepR a r L = r' at A13 HN
           generalize stepF a r F L = F' at A13 HN
           generalize stepW a r W L = W' at A13 HN)
        rw [HN.out.2.2] at HN
        obtain ⟨G0, G1, _, _, _, _, _⟩ := okP_bd HN.out.1
        have hnear := HN.out.2.1
        have hchk : 420 ≤ k → F' - (800 + J) ≤ 16 ∧ -16 ≤ F' - (800 + J) := by unfold near at hnear; omega
        clear hnear
        go_wp2_with fail
        refine (A13.out _ hC.out).mono ?_
        rintro x w4 ⟨b4, c4, rfl, hb4a, hb4b, hc4, hb4⟩
        have hg4 := chain hg hb4
        have hne4 : b4 ≠ w.heap.size := by omega
        have P4 := hP.out.below hb4
        have P4s := P4.store true r' F' W' (some ⟨b4, 0, none⟩) 9 c4
        have C4s := hc4.stores (P := w.heap.size) hne4 (.bool true) (.bool r') (.int .i64 F') (.int .i64 W') (.slice (some ⟨b4, 0, none⟩) 9 c4)
        have P5 := Lib.hid (fun o => P4s.below ((Below.refl _ _).alloc (Nat.le_refl _) o))
        have C5 := Lib.hid (fun o => C4s.below ((Below.refl _ _).alloc (Nat.le_refl _) o))
        clear P4s C4s
        clear hb4 hg p0 p1 p2 p3 p4 e0 e1 e2 e3 e4 hP hC hc4 A13 hl
        obtain ⟨p0, p1, p2, p3, p4, e0, e1, e2, e3, e4, hl⟩ := id P4
        clear P4
        by_cases h420 : 420 ≤ k
        · obtain ⟨g1, g2⟩ := hchk h420
          clear hchk
          go_wp2_with fail
          all_goals
            go_roundg (500 - (k + 1))
            case measure => omega
            case rel => exact ⟨k + 1, true, r', F', W', b4, 0, c4, by omega, by omega, by go_num, P5.out _, hne4, C5.out _, by go_grown, HN.out.1, fun h => (by cases h), fun h => absurd h (by omega), HN.out.2.1⟩
        · have hd : decide ((420 : Int) ≤ (k : Int)) = false := by rw [decide_eq_false_iff_not]; omega
          clear hchk
          go_wp2_with fail
          all_goals
            go_roundg (500 - (k + 1))
            case measure => omega
            case rel => exact ⟨k + 1, true, r', F', W', b4, 0, c4, by omega, by omega, by go_num, P5.out _, hne4, C5.out _, by go_grown, HN.out.1, fun h => (by cases h), fun h => absurd h (by omega), HN.out.2.1⟩
    · obtain rfl : k = 500 := by omega
      go_wp2
      go_ret
      exact ⟨rfl, hg⟩
theorem finds4 (a r : Bool) (F W : Int) (A : Option Addr) (n cap : Nat) (f g : Nat → Int) (i x1 x2 : Int) (w : World) (hs : Cls w A n f g) (hl : n ≤ 9223372036854775807) (hi : 0 ≤ i ∧ i ≤ 65535) (h1 : 0 ≤ x1 ∧ x1 ≤ 65535) (h2 : 0 ≤ x2 ∧ x2 ≤ 65535) :
    Calls Try.prog 4 #[.agg #[.bool a, .bool r, .int .i64 F, .int .i64 W, .slice A n cap], .int .u16 i, .int .u16 x1, .int .u16 x2] w fun x w' => x = .returned (.bool true) ∧ Below w.heap.size w w' := by
  by_cases h : 20 < n ∨ okP a r F W n f g = false ∨ F < 800 ∨ 1200 < F
  · exact finds_out a r F W A n cap f g i x1 x2 w hs hl h
  · have k1 : okP a r F W n f g = true := by
      cases e : okP a r F W n f g
      · exact absurd (.inr (.inl e)) h
      · rfl
    have k2 : 800 ≤ F ∧ F ≤ 1200 := by omega
    obtain ⟨_, _, _, _, rfl, _⟩ := okP_bd k1
    exact finds_in a r F W A cap f g i x1 x2 w hs k1 k2 hi h1 h2
end Go.Proofs.Ytemfjikiopcgpaa
