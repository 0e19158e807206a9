/-
  The core of the law MixtureKeeps. No condition but the slice's shape.
-/
import Derived.Test.YtemfjikiopcgpaaLrPlain
set_option linter.unusedVariables false
set_option linter.unusedSimpArgs false
namespace Go.Proofs.Ytemfjikiopcgpaa
open Go.RowKit
theorem keeps_out (a r : Bool) (F W : Int) (A : Option Addr) (n cap : Nat) (f g : Nat → Int) (s c : Int) (w : World) (hs : Cls w A n f g) (hl : n ≤ 9223372036854775807) (h : 20 < n ∨ okP a r F W n f g = false ∨ a = false)  :
    Calls Try.prog 10 #[.agg #[.bool a, .bool r, .int .i64 F, .int .i64 W, .slice A n cap], .int .u32 s, .int .u32 c] w fun x w' => x = .returned (.bool true) ∧ Below w.heap.size w w' := by
  have V := fun w h => valid16 a r F W A n cap f g w h hl
  have T := fun w => few12 a r F W A n cap w
  generalize okP a r F W n f g = o at V h
  have h' : decide (n ≤ 20) = false ∨ (decide (n ≤ 20) = true ∧ (o = false ∨ (o = true ∧ a = false))) := by
    by_cases h1 : n ≤ 20
    · refine .inr ⟨by simp [h1], ?_⟩
      rcases h with h | h | h
      · omega
      · exact .inl h
      · cases o
        · exact .inl rfl
        · exact .inr ⟨rfl, h⟩
    · exact .inl (by simp [h1])
  generalize decide (n ≤ 20) = t at T h'
  have HS := Lib.hid hs
  have V := Lib.hid V
  have T := Lib.hid T
  clear hs h
  have start : ∀ (Q : Prop), Q → Q := fun _ h => h
  rcases h' with rfl | ⟨rfl, rfl | ⟨rfl, rfl⟩⟩
  all_goals
    go_enter Try.func10, Try.ntmps10
    go_wp2_with fail
    refine (awake11 _).mono ?_
    rintro x w1 ⟨rfl, hb1⟩
    have hg1 := chain (w := w) (by go_grown) hb1
    have P1 := (PV.new (w := w) rfl _ _ _ _ _ _ _).below hb1
    obtain ⟨p0, p1, p2, p3, p4, e0, e1, e2, e3, e4, hl1⟩ := id P1
    have HP := Lib.hid P1
    clear hb1 P1
    go_wp2_with fail
    refine (T.out _).mono ?_
    rintro x w2 ⟨rfl, hb2⟩
    have hg2 := chain hg1 hb2
    have P2 := HP.out.below hb2
    clear hb2 hg1 p0 p1 p2 p3 p4 e0 e1 e2 e3 e4 HP hl1
    obtain ⟨p0, p1, p2, p3, p4, e0, e1, e2, e3, e4, hl2⟩ := id P2
    have HP := Lib.hid P2
    clear P2
  · go_wp2
    go_ret
    exact ⟨rfl, hg2⟩
  all_goals
    go_wp2_with fail
    refine (V.out _ (HS.out.below hg2)).mono ?_
    rintro x w3 ⟨rfl, hb3⟩
    have hg3 := chain hg2 hb3
    have P2 := HP.out.below hb3
    clear hb3 hg2 p0 p1 p2 p3 p4 e0 e1 e2 e3 e4 HP hl2
    obtain ⟨p0, p1, p2, p3, p4, e0, e1, e2, e3, e4, hl3⟩ := id P2
    clear P2
    go_wp2
    go_ret
    exact ⟨rfl, hg3⟩
theorem lrF_move {F : Int} {f : Nat → Int} {k : Nat} (h0 : 750 ≤ F) (h1 : F ≤ 1250) (v0 : -100 ≤ f k) (v1 : f k ≤ 100) : (1000 < F → 1000 ≤ lrF F f k ∧ lrF F f k ≤ F) ∧ (F ≤ 1000 → F ≤ lrF F f k ∧ lrF F f k ≤ 1000) := by
  obtain ⟨b0, b1, b2, b3⟩ := lrV_bd h0 h1 v0 v1
  unfold lrF
  omega
set_option maxRecDepth 100000 in
set_option maxHeartbeats 4000000 in
theorem keeps_in (r : Bool) (F W : Int) (A : Option Addr) (cap : Nat) (f g : Nat → Int) (s c : Int) (w : World) (hs : Cls w A 9 f g) (h : okP true r F W 9 f g = true) (hs0 : 0 ≤ s ∧ s ≤ 4294967295) (hc0 : 0 ≤ c ∧ c ≤ 4294967295) :
    Calls Try.prog 10 #[.agg #[.bool true, .bool r, .int .i64 F, .int .i64 W, .slice A 9 cap], .int .u32 s, .int .u32 c] w fun x w' => x = .returned (.bool true) ∧ Below w.heap.size w w' := by
  have V := fun w h => valid16 true r F W A 9 cap f g w h (by omega)
  have T := fun w => few12 true r F W A 9 cap w
  rw [h] at V
  obtain ⟨F0, F1, W0, W1, _, _, hall⟩ := okP_bd h
  obtain ⟨S, hS⟩ : ∃ S, s % 12001 = S := ⟨_, rfl⟩
  obtain ⟨C, hC⟩ : ∃ C, c % 1048577 = C := ⟨_, rfl⟩
  have S0 : 0 ≤ S ∧ S ≤ 12000 := by omega
  have C0 : 0 ≤ C ∧ C ≤ 1048576 := by omega
  have hpt : pt S C = true := by unfold pt; rw [inB_mk S0.1 S0.2, inB_mk C0.1 C0.2]; rfl
  obtain ⟨k0, k1⟩ := cellN_bd S C hpt
  obtain ⟨k, hk⟩ : ∃ k : Nat, cellN S C = k := ⟨(cellN S C).toNat, by omega⟩
  have CL := fun w => cell26 S C w
  rw [hk] at CL k0 k1
  replace CL := Lib.hid CL
  have hkl : k < 9 := by omega
  have hck := allC_at 9 hall k hkl
  simp only [cOk, Bool.and_eq_true] at hck
  obtain ⟨v0, v1⟩ := inB_t hck.1
  have hmove := lrF_move (F := F) (f := f) (k := k) F0 F1 v0 v1
  have hzz := facV_lr F f S C k hk
  have HV2 := Lib.hid (lr_valid (W := W) (r := r) (g := g) h hkl)
  have HOK := Lib.hid h
  have HPT := Lib.hid hpt
  have LR := fun w h' => learn_run r F W A cap f g k w (lrF F f k) (lrf F f k) (lrg g k) h' h hkl rfl rfl rfl
  have FA := fun w h' => fac_run true r F W A cap f g S C w _ h' h hpt rfl
  have FB := fun b c w h' => fac_run true r (lrF F f k) W (some ⟨b, 0, none⟩) c (lrf F f k) (lrg g k) S C w _ h' HV2.out hpt rfl
  rw [hzz] at FB
  have EF : Hid (∀ i, i ≠ k → lrf F f k i = f i ∧ lrg g k i = g i) := Lib.hid (fun i hi => ⟨if_neg hi, if_neg hi⟩)
  generalize facV F f S C = z at FA FB
  generalize lrF F f k = F' at LR FB hmove
  generalize lrf F f k = f' at LR FB EF
  generalize lrg g k = g' at LR FB EF
  replace LR := Lib.hid LR
  replace FA := Lib.hid FA
  replace FB := Lib.hid FB
  have HS := Lib.hid hs
  replace V := Lib.hid V
  replace T := Lib.hid T
  obtain ⟨s0, s1⟩ := hs0
  obtain ⟨c0, c1⟩ := hc0
  have hm1 := hmove.1
  have hm2 := hmove.2
  clear hs h hall hck hzz hk hpt HV2 hmove
  go_enter Try.func10, Try.ntmps10
  go_wp2_with fail
  refine (awake11 _).mono ?_
  rintro x w1 ⟨rfl, hb1⟩
  have hg1 := chain (w := w) (by go_grown) hb1
  have P1 := (PV.new (w := w) rfl _ _ _ _ _ _ _).below hb1
  obtain ⟨p0, p1, p2, p3, p4, e0, e1, e2, e3, e4, hl1⟩ := id P1
  have HP := Lib.hid P1
  clear hb1 P1
  go_wp2_with fail
  refine (T.out _).mono ?_
  rintro x w2 ⟨rfl, hb2⟩
  have hg2 := chain hg1 hb2
  have P2 := HP.out.below hb2
  clear hb2 hg1 p0 p1 p2 p3 p4 e0 e1 e2 e3 e4 HP hl1
  obtain ⟨p0, p1, p2, p3, p4, e0, e1, e2, e3, e4, hl2⟩ := id P2
  have HP := Lib.hid P2
  clear P2
  go_wp2_with fail
  refine (V.out _ (HS.out.below hg2)).mono ?_
  rintro x w3 ⟨rfl, hb3⟩
  have hg3 := chain hg2 hb3
  have P3 := HP.out.below hb3
  clear hb3 hg2 p0 p1 p2 p3 p4 e0 e1 e2 e3 e4 HP hl2
  obtain ⟨p0, p1, p2, p3, p4, e0, e1, e2, e3, e4, hl3⟩ := id P3
  have HP := Lib.hid P3
  clear P3
  go_wp2_with fail
  refine (CL.out _).mono ?_
  rintro x w4 ⟨rfl, hb4⟩
  have hg4 := chain hg3 hb4
  have P4 := HP.out.below hb4
  clear hb4 hg3 p0 p1 p2 p3 p4 e0 e1 e2 e3 e4 HP hl3 T V
  obtain ⟨p0, p1, p2, p3, p4, e0, e1, e2, e3, e4, hl4⟩ := id P4
  have HP := Lib.hid P4
  clear P4
  go_wp2_with fail
  refine (LR.out _ (HS.out.below hg4)).mono ?_
  rintro x w5 ⟨b4, c4, rfl, hb5a, hb5b, hc5, hb5⟩
  have hg5 := chain hg4 hb5
  have P5 := HP.out.below hb5
  have X5 := Lib.hid (PV.new (w := w5) rfl true r F' W (some ⟨b4, 0, none⟩) 9 c4)
  have hAl : Below w5.heap.size w5 (w5.alloc (.cells #[.bool true, .bool r, .int .i64 F', .int .i64 W, .slice (some ⟨b4, 0, none⟩) 9 c4] 24)) := (Below.refl _ _).alloc (Nat.le_refl _) _
  have HC5 := Lib.hid (hc5.below hAl)
  have HP5 := Lib.hid (P5.below hAl)
  have ga := hg5.alloc hg5.size (.cells #[.bool true, .bool r, .int .i64 F', .int .i64 W, .slice (some ⟨b4, 0, none⟩) 9 c4] 24)
  have hG := Lib.hid ga
  clear hb5 hg4 p0 p1 p2 p3 p4 e0 e1 e2 e3 e4 HP hl4 hc5 hAl LR CL ga
  obtain ⟨p0, p1, p2, p3, p4, e0, e1, e2, e3, e4, hl5⟩ := id P5
  clear P5
  go_wp2_with fail
  refine (FA.out _ (HS.out.below hG.out)).mono ?_
  rintro x w6 ⟨rfl, hb6⟩
  have hg6 := chain hG.out hb6
  have P6 := HP5.out.below hb6
  have X6 := X5.out.below hb6
  have C6 := HC5.out.below hb6
  clear hb6 p0 p1 p2 p3 p4 e0 e1 e2 e3 e4 HP5 X5 HC5 hl5 FA hG hg5
  obtain ⟨p0, p1, p2, p3, p4, e0, e1, e2, e3, e4, hl6⟩ := id P6
  obtain ⟨q0, q1, q2, q3, q4, f0, f1, f2, f3, f4, hq6⟩ := id X6
  have HP := Lib.hid P6
  have HX := Lib.hid X6
  have HC := Lib.hid C6
  clear P6 X6 C6
  go_wp2_with fail
  refine (FB.out b4 c4 _ HC.out).mono ?_
  rintro x w7 ⟨rfl, hb7⟩
  have hg7 := chain hg6 hb7
  have P7 := HP.out.below hb7
  have X7 := HX.out.below hb7
  have C7 := HC.out.below hb7
  clear hb7 p0 p1 p2 p3 p4 e0 e1 e2 e3 e4 q0 q1 q2 q3 q4 f0 f1 f2 f3 f4 HP HX HC hl6 hq6 FB hg6
  obtain ⟨p0, p1, p2, p3, p4, e0, e1, e2, e3, e4, hl7⟩ := id P7
  obtain ⟨q0, q1, q2, q3, q4, f0, f1, f2, f3, f4, hq7⟩ := id X7
  have HR := Lib.hid (And.intro P7 (And.intro X7 C7))
  clear P7 X7 C7
  go_wp2_with fail
  go_loopg [88] 9 (fun gk ix wr => ∃ i : Nat, i ≤ 9 ∧ 9 - i ≤ gk ∧ ix = .int .i64 i ∧ PV w.heap.size wr true r F W A 9 cap ∧ PV w5.heap.size wr true r F' W (some ⟨b4, 0, none⟩) 9 c4 ∧ Cls wr (some ⟨b4, 0, none⟩) 9 f' g' ∧ Below w.heap.size w wr)
  case atStart => exact ⟨0, by omega, by omega, rfl, HR.out.1, HR.out.2.1, HR.out.2.2, hg7⟩
  case round =>
    clear HR p0 p1 p2 p3 p4 e0 e1 e2 e3 e4 q0 q1 q2 q3 q4 f0 f1 f2 f3 f4 hl7 hq7 hg7
    obtain ⟨i, hi, hgk, rfl, hP, hX, hCl, hg⟩ := hrel
    obtain ⟨p0, p1, p2, p3, p4, e0, e1, e2, e3, e4, hl⟩ := id hP
    obtain ⟨q0, q1, q2, q3, q4, f0, f1, f2, f3, f4, hq⟩ := id hX
    have HR := Lib.hid (And.intro hP (And.intro hX hCl))
    by_cases hlt : i < 9
    · obtain ⟨bA, oA, rfl, hbA, hcA⟩ := HS.out (by omega)
      obtain ⟨d0, d1⟩ := hcA i hlt
      replace d0 := ((bcell hg).1 _ _ hbA).trans d0
      replace d1 := ((bcell hg).1 _ _ hbA).trans d1
      obtain ⟨b', o', e, hb', hc'⟩ := hCl (by omega)
      injection e with e; injection e with e1' e2'
      subst e1'; subst e2'
      obtain ⟨t0, t1⟩ := hc' i hlt
      simp only [Nat.zero_add] at t0 t1
      have i0 : (0 : Int) ≤ (i : Int) := by omega
      have i9 : (i : Int) < 9 := by omega
      clear hcA hc' hP hX hCl e0 e1 e2 e3 e4 f0 f1 f2 f3 f4
      by_cases hik : i = k
      · subst hik
        go_wp2_with fail
        go_quiet (fail)
        go_wp2
        go_roundg (9 - (i + 1))
        case measure => omega
        case rel => exact ⟨i + 1, by omega, by omega, by go_num, HR.out.1.below (below_drewN _ _), HR.out.2.1.below (below_drewN _ _), HR.out.2.2.below (below_drewN _ _), chain hg (below_drewN _ _)⟩
      · obtain ⟨ef, eg⟩ := EF.out i hik
        rw [ef] at t0
        rw [eg] at t1
        have hb1 : ((i : Int) != (k : Int)) = true := by simp; omega
        clear ef eg
        generalize f i = x at d0 t0
        generalize g i = y at d1 t1
        go_wp2_with fail
        go_quiet (fail)
        go_wp2
        go_roundg (9 - (i + 1))
        case measure => omega
        case rel => exact ⟨i + 1, by omega, by omega, by go_num, HR.out.1.below (below_drewN _ _), HR.out.2.1.below (below_drewN _ _), HR.out.2.2.below (below_drewN _ _), chain hg (below_drewN _ _)⟩
    · obtain rfl : i = 9 := by omega
      clear HR hP hX hCl
      by_cases hF : 1000 < F
      · obtain ⟨m0, m1⟩ := hm1 hF
        go_wp2
        go_ret
        exact ⟨ret_bool (by simp <;> omega), hg⟩
      · obtain ⟨m0, m1⟩ := hm2 (by omega)
        have hd : decide ((1000 : Int) < F) = false := by simp; omega
        go_wp2
        go_ret
        exact ⟨ret_bool (by simp <;> omega), hg⟩
theorem keeps10 (a r : Bool) (F W : Int) (A : Option Addr) (n cap : Nat) (f g : Nat → Int) (s c : Int) (w : World) (hs : Cls w A n f g) (hl : n ≤ 9223372036854775807) (hs0 : 0 ≤ s ∧ s ≤ 4294967295) (hc0 : 0 ≤ c ∧ c ≤ 4294967295) :
    Calls Try.prog 10 #[.agg #[.bool a, .bool r, .int .i64 F, .int .i64 W, .slice A n cap], .int .u32 s, .int .u32 c] w fun x w' => x = .returned (.bool true) ∧ Below w.heap.size w w' := by
  by_cases h : 20 < n ∨ okP a r F W n f g = false ∨ a = false
  · exact keeps_out a r F W A n cap f g s c w hs hl h
  · have h1 : okP a r F W n f g = true := by
      cases e : okP a r F W n f g
      · exact absurd (.inr (.inl e)) h
      · rfl
    have h2 : a = true := by
      cases e : a
      · exact absurd (.inr (.inr e)) h
      · rfl
    subst h2
    obtain ⟨_, _, _, _, rfl, _⟩ := okP_bd h1
    exact keeps_in r F W A cap f g s c w hs h1 hs0 hc0
end Go.Proofs.Ytemfjikiopcgpaa
