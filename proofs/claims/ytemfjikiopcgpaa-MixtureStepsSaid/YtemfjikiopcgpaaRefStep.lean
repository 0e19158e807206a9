/-
  The contract of the reference's Step. No condition but the slice's shape.
-/
import Derived.Test.YtemfjikiopcgpaaOpens
import Derived.IntWalk
set_option linter.unusedVariables false
namespace Go.Proofs.Ytemfjikiopcgpaa
open Go.RowKit
theorem PV.setR {P : Nat} {w : World} {a r : Bool} {F W : Int} {A : Option Addr} {n c : Nat} (h : PV P w a r F W A n c) (r' : Bool) : PV P (w.setCell ⟨P, 1, none⟩ (.bool r')) a r' F W A n c := by
  obtain ⟨h0, h1, h2, h3, h4, k0, k1, k2, k3, k4, hl⟩ := h
  refine ⟨by go_cell, by go_cell, by go_cell, by go_cell, by go_cell, ?_, ?_, ?_, ?_, ?_, by simpa using hl⟩ <;> simp [go_sem, k0, k1, k2, k3, k4]
theorem PV.setF {P : Nat} {w : World} {a r : Bool} {F W : Int} {A : Option Addr} {n c : Nat} (h : PV P w a r F W A n c) (F' : Int) : PV P (w.setCell ⟨P, 2, none⟩ (.int .i64 F')) a r F' W A n c := by
  obtain ⟨h0, h1, h2, h3, h4, k0, k1, k2, k3, k4, hl⟩ := h
  refine ⟨by go_cell, by go_cell, by go_cell, by go_cell, by go_cell, ?_, ?_, ?_, ?_, ?_, by simpa using hl⟩ <;> simp [go_sem, k0, k1, k2, k3, k4]
theorem PV.setW {P : Nat} {w : World} {a r : Bool} {F W : Int} {A : Option Addr} {n c : Nat} (h : PV P w a r F W A n c) (W' : Int) : PV P (w.setCell ⟨P, 3, none⟩ (.int .i64 W')) a r F W' A n c := by
  obtain ⟨h0, h1, h2, h3, h4, k0, k1, k2, k3, k4, hl⟩ := h
  refine ⟨by go_cell, by go_cell, by go_cell, by go_cell, by go_cell, ?_, ?_, ?_, ?_, ?_, by simpa using hl⟩ <;> simp [go_sem, k0, k1, k2, k3, k4]
set_option maxHeartbeats 1000000 in
theorem step14_arg (a r : Bool) (F W : Int) (A : Option Addr) (n cap : Nat) (f g : Nat → Int) (mv s c : Int) (w : World) (hs : Cls w A n f g) (hl : n ≤ 9223372036854775807) (h : okP a r F W n f g = false) : Calls Try.prog 14 #[.agg #[.bool a, .bool r, .int .i64 F, .int .i64 W, .slice A n cap], .int .i64 mv, .int .i64 s, .int .i64 c] w (StPost 1 false false 0 0 f g w) := by
  have V := fun w h => valid21 a r F W A n cap f g w h hl
  have HS := Lib.hid hs
  clear hs
  rw [h] at V
  replace V := Lib.hid V
  clear h
  go_enter Try.func14, Try.ntmps14
  go_wp2_with fail
  refine (V.out _ (HS.out.below (by go_grown))).mono ?_
  rintro x w1 ⟨rfl, hb1⟩
  have hg1 := chain (w := w) (by go_grown) hb1
  have P1 := ((PV.new (w := w) rfl _ _ _ _ _ _ _).below ((Below.refl _ _).alloc (Nat.le_refl _) _)).below hb1
  have Q1 := (PV.new (P := w.heap.size + 1) (by simp) _ _ _ _ _ _ _).below hb1
  clear hb1
  obtain ⟨p0, p1, p2, p3, p4, e0, e1, e2, e3, e4, hz0⟩ := id P1
  obtain ⟨q0, q1, q2, q3, q4, f0, f1, f2, f3, f4, hz⟩ := id Q1
  have HP := Lib.hid P1
  have HQ := Lib.hid Q1
  clear P1 Q1
  go_wp2_with fail
  refine bodyPost_ret (v := .tuple #[.agg #[.bool false, .bool false, .int .i64 0, .int .i64 0, .slice none 0 0], .int .i64 1]) (by simp [results, Try.results14, go_sem, q0, q1, q2, q3, q4, hz] <;> first | rfl | ((repeat' apply And.intro) <;> rfl)) rfl (.inr ⟨by decide, rfl, by go_grown⟩)
set_option maxHeartbeats 1000000 in
theorem step14_range (a r : Bool) (F W : Int) (A : Option Addr) (n cap : Nat) (f g : Nat → Int) (mv s c : Int) (w : World) (hs : Cls w A n f g) (hl : n ≤ 9223372036854775807) (h : okP a r F W n f g = true) (h2 : (pt s c && inB mv 0 20000) = false) : Calls Try.prog 14 #[.agg #[.bool a, .bool r, .int .i64 F, .int .i64 W, .slice A n cap], .int .i64 mv, .int .i64 s, .int .i64 c] w (StPost 2 false false 0 0 f g w) := by
  have V := fun w h => valid21 a r F W A n cap f g w h hl
  have HS := Lib.hid hs
  clear hs
  rw [h] at V
  replace V := Lib.hid V
  clear h
  have A1 := fun w => point32 s c w
  have A2 := fun w => in33 mv 0 20000 w
  generalize pt s c = b1 at A1 h2
  generalize inB mv 0 20000 = b2 at A2 h2
  replace A1 := Lib.hid A1
  replace A2 := Lib.hid A2
  have h2' : b1 = false ∨ (b1 = true ∧ b2 = false) := by cases b1 <;> simp at h2 ⊢; exact h2
  clear h2
  rcases h2' with rfl | ⟨rfl, rfl⟩
  all_goals
    go_enter Try.func14, Try.ntmps14
    go_wp2_with fail
    refine (V.out _ (HS.out.below (by go_grown))).mono ?_
    rintro x w1 ⟨rfl, hb1⟩
    have hg1 := chain (w := w) (by go_grown) hb1
    have P1 := ((PV.new (w := w) rfl _ _ _ _ _ _ _).below ((Below.refl _ _).alloc (Nat.le_refl _) _)).below hb1
    have Q1 := (PV.new (P := w.heap.size + 1) (by simp) _ _ _ _ _ _ _).below hb1
    clear hb1
    obtain ⟨p0, p1, p2, p3, p4, e0, e1, e2, e3, e4, hz0⟩ := id P1
    obtain ⟨q0, q1, q2, q3, q4, f0, f1, f2, f3, f4, hz⟩ := id Q1
    have HP := Lib.hid P1
    have HQ := Lib.hid Q1
    clear P1 Q1
    go_wp2_with fail
    refine (A1.out _).mono ?_
    rintro x w2 ⟨rfl, rfl⟩
  · go_wp2_with fail
    refine bodyPost_ret (v := .tuple #[.agg #[.bool false, .bool false, .int .i64 0, .int .i64 0, .slice none 0 0], .int .i64 2]) (by simp [results, Try.results14, go_sem, q0, q1, q2, q3, q4, hz] <;> first | rfl | ((repeat' apply And.intro) <;> rfl)) rfl (.inr ⟨by decide, rfl, by go_grown⟩)
  · go_wp2_with fail
    refine (A2.out _).mono ?_
    rintro x w2 ⟨rfl, rfl⟩
    go_wp2_with fail
    refine bodyPost_ret (v := .tuple #[.agg #[.bool false, .bool false, .int .i64 0, .int .i64 0, .slice none 0 0], .int .i64 2]) (by simp [results, Try.results14, go_sem, q0, q1, q2, q3, q4, hz] <;> first | rfl | ((repeat' apply And.intro) <;> rfl)) rfl (.inr ⟨by decide, rfl, by go_grown⟩)
set_option maxHeartbeats 4000000 in
theorem step14_idle (r : Bool) (F W : Int) (A : Option Addr) (n cap : Nat) (f g : Nat → Int) (mv s c : Int) (w : World) (hs : Cls w A n f g) (hl : n ≤ 9223372036854775807) (h : okP false r F W n f g = true) (h2 : (pt s c && inB mv 0 20000) = true) : Calls Try.prog 14 #[.agg #[.bool false, .bool r, .int .i64 F, .int .i64 W, .slice A n cap], .int .i64 mv, .int .i64 s, .int .i64 c] w (StPost 0 (stepA false mv) (stepR false r mv) (stepF false r F mv) (stepW false r W mv) f g w) := by
  obtain ⟨F0, F1, W0, W1, rfl, ha, _⟩ := okP_bd h
  have V := fun w h => valid21 false r F W A 9 cap f g w h hl
  have HS := Lib.hid hs
  clear hs
  rw [h] at V
  replace V := Lib.hid V
  clear h
  simp only [Bool.and_eq_true] at h2
  have A1 := fun w => point32 s c w
  have A2 := fun w => in33 mv 0 20000 w
  rw [h2.1] at A1
  rw [h2.2] at A2
  obtain ⟨m0, m1⟩ := inB_t h2.2
  replace A1 := Lib.hid A1
  replace A2 := Lib.hid A2
  clear h2
  obtain ⟨a', ha'⟩ : ∃ x, x = stepA false mv := ⟨_, rfl⟩
  obtain ⟨r', hr'⟩ : ∃ x, x = stepR false r mv := ⟨_, rfl⟩
  obtain ⟨F', hF'⟩ : ∃ x, x = stepF false r F mv := ⟨_, rfl⟩
  obtain ⟨W', hW'⟩ : ∃ x, x = stepW false r W mv := ⟨_, rfl⟩
  rw [← ha', ← hr', ← hF', ← hW']
  have E1 := Lib.hid ha'
  have E2 := Lib.hid hr'
  have E3 := Lib.hid hF'
  have E4 := Lib.hid hW'
  have HA := Lib.hid ha
  clear ha' hr' hF' hW' ha
  go_enter Try.func14, Try.ntmps14
  go_wp2_with fail
  refine (V.out _ (HS.out.below (by go_grown))).mono ?_
  rintro x w1 ⟨rfl, hb1⟩
  have hg1 := chain (w := w) (by go_grown) hb1
  have P1 := ((PV.new (w := w) rfl _ _ _ _ _ _ _).below ((Below.refl _ _).alloc (Nat.le_refl _) _)).below hb1
  have Q1 := (PV.new (P := w.heap.size + 1) (by simp) _ _ _ _ _ _ _).below hb1
  clear hb1
  obtain ⟨p0, p1, p2, p3, p4, e0, e1, e2, e3, e4, hz0⟩ := id P1
  obtain ⟨q0, q1, q2, q3, q4, f0, f1, f2, f3, f4, hz⟩ := id Q1
  have HP := Lib.hid P1
  have HQ := Lib.hid Q1
  clear P1 Q1
  go_wp2_with fail
  refine (A1.out _).mono ?_
  rintro x w2 ⟨rfl, rfl⟩
  go_wp2_with fail
  refine (A2.out _).mono ?_
  rintro x w2 ⟨rfl, rfl⟩
  go_wp2_with fail
  refine (copy34 false r F W A cap f g _ (HS.out.below hg1)).mono ?_
  rintro x w2 ⟨v, rfl, hown, hb2⟩
  have hg2 := chain hg1 hb2
  have P2 := HP.out.below hb2
  have Q2 := HQ.out.below hb2
  have sz := hb2.size
  clear hb2 p0 p1 p2 p3 p4 e0 e1 e2 e3 e4 q0 q1 q2 q3 q4 f0 f1 f2 f3 f4 HP HQ hg1 V A1 A2 HS
  obtain ⟨p0, p1, p2, p3, p4, e0, e1, e2, e3, e4, hzp⟩ := id P2
  obtain ⟨q0, q1, q2, q3, q4, f0, f1, f2, f3, f4, hzq⟩ := id Q2
  obtain ⟨b, c9, rfl, hbb, hbl, h9, hm9⟩ := own_some hown
  have HO := Lib.hid hown
  have zz : w.heap.size + 1 < w1.heap.size := hz
  have zz2 : w1.heap.size ≤ w2.heap.size := sz
  go_upto_region 6 with fail
  have P3 := P2.below ((Below.refl _ _).alloc (Nat.le_refl _) (.cells #[.bool false, .bool r, .int .i64 F, .int .i64 W, .slice (some ⟨b, 0, none⟩) 9 c9] 24))
  have Q3 := Q2.below ((Below.refl _ _).alloc (Nat.le_refl _) (.cells #[.bool false, .bool r, .int .i64 F, .int .i64 W, .slice (some ⟨b, 0, none⟩) 9 c9] 24))
  have O3 := PV.new (w := w2) rfl false r F W (some ⟨b, 0, none⟩) 9 c9
  have R3 := hown.alloc (.cells #[.bool false, .bool r, .int .i64 F, .int .i64 W, .slice (some ⟨b, 0, none⟩) 9 c9] 24)
  have G3 : Below w.heap.size w (w2.alloc (.cells #[.bool false, .bool r, .int .i64 F, .int .i64 W, .slice (some ⟨b, 0, none⟩) 9 c9] 24)) := by go_grown
  obtain ⟨w3, hw3⟩ : ∃ w3, w3 = w2.alloc (.cells #[.bool false, .bool r, .int .i64 F, .int .i64 W, .slice (some ⟨b, 0, none⟩) 9 c9] 24) := ⟨_, rfl⟩
  rw [← hw3] at P3 Q3 O3 R3 G3 ⊢
  have hne : b ≠ w2.heap.size := by omega
  clear hw3 P2 Q2 hown p0 p1 p2 p3 p4 q0 q1 q2 q3 q4 f0 f1 f2 f3 f4 h9 hm9 hg2
  obtain ⟨p0, p1, p2, p3, p4, _, _, _, _, _, hzp3⟩ := id P3
  obtain ⟨q0, q1, q2, q3, q4, f0, f1, f2, f3, f4, hzq3⟩ := id Q3
  obtain ⟨o0, o1, o2, o3, o4, g0, g1, g2, g3, g4, hzo3⟩ := id O3
  have HO := Lib.hid R3
  have HP3 := Lib.hid (And.intro G3 (And.intro Q3 O3))
  clear P3 Q3 O3 R3
  obtain ⟨rfl, rfl, rfl⟩ : F = 1000 ∧ W = 0 ∧ r = false := by simpa using HA.out
  clear HA
  rcases (by omega : mv < 300 ∨ (300 ≤ mv ∧ mv ≤ 600) ∨ 600 < mv) with k1 | ⟨k1, k2⟩ | k1
  all_goals
    go_wp2_with fail
    refine bodyPost_ret (v := .tuple #[.agg #[.bool _, .bool _, .int .i64 _, .int .i64 _, .slice (some ⟨b, 0, none⟩) 9 c9], .int .i64 _]) (by simp [results, Try.results14, go_sem, q0, q1, q2, q3, q4, hzq3] <;> first | rfl | ((repeat' apply And.intro) <;> rfl)) rfl (.inl ⟨rfl, _, ret_pr ?_ ?_ ?_ ?_, ?_, by go_grown⟩)
    · rw [E1.out]; simp [stepA]; try omega
    · rw [E2.out]; simp [stepR]; try omega
    · rw [E3.out]; simp [stepF]
    · rw [E4.out]; simp [stepW]
    refine own_mono (base := w1.heap.size) ?_ (by omega)
    repeat refine ownsRow_setCell_other ?_ (by simp [Value.ownBlock]; omega) _
    exact HO.out
set_option maxHeartbeats 4000000 in
theorem step14_hi (r : Bool) (F W : Int) (A : Option Addr) (n cap : Nat) (f g : Nat → Int) (mv s c : Int) (w : World) (hs : Cls w A n f g) (hl : n ≤ 9223372036854775807) (h : okP true r F W n f g = true) (h2 : (pt s c && inB mv 0 20000) = true) (hM : 500 < mv) : Calls Try.prog 14 #[.agg #[.bool true, .bool r, .int .i64 F, .int .i64 W, .slice A n cap], .int .i64 mv, .int .i64 s, .int .i64 c] w (StPost 0 (stepA true mv) (stepR true r mv) (stepF true r F mv) (stepW true r W mv) f g w) := by
  obtain ⟨F0, F1, W0, W1, rfl, ha, _⟩ := okP_bd h
  have V := fun w h => valid21 true r F W A 9 cap f g w h hl
  have HS := Lib.hid hs
  clear hs
  rw [h] at V
  replace V := Lib.hid V
  clear h
  simp only [Bool.and_eq_true] at h2
  have A1 := fun w => point32 s c w
  have A2 := fun w => in33 mv 0 20000 w
  rw [h2.1] at A1
  rw [h2.2] at A2
  obtain ⟨m0, m1⟩ := inB_t h2.2
  replace A1 := Lib.hid A1
  replace A2 := Lib.hid A2
  clear h2
  obtain ⟨a', ha'⟩ : ∃ x, x = stepA true mv := ⟨_, rfl⟩
  obtain ⟨r', hr'⟩ : ∃ x, x = stepR true r mv := ⟨_, rfl⟩
  obtain ⟨F', hF'⟩ : ∃ x, x = stepF true r F mv := ⟨_, rfl⟩
  obtain ⟨W', hW'⟩ : ∃ x, x = stepW true r W mv := ⟨_, rfl⟩
  rw [← ha', ← hr', ← hF', ← hW']
  have E1 := Lib.hid ha'
  have E2 := Lib.hid hr'
  have E3 := Lib.hid hF'
  have E4 := Lib.hid hW'
  have HA := Lib.hid ha
  clear ha' hr' hF' hW' ha
  go_enter Try.func14, Try.ntmps14
  go_wp2_with fail
  refine (V.out _ (HS.out.below (by go_grown))).mono ?_
  rintro x w1 ⟨rfl, hb1⟩
  have hg1 := chain (w := w) (by go_grown) hb1
  have P1 := ((PV.new (w := w) rfl _ _ _ _ _ _ _).below ((Below.refl _ _).alloc (Nat.le_refl _) _)).below hb1
  have Q1 := (PV.new (P := w.heap.size + 1) (by simp) _ _ _ _ _ _ _).below hb1
  clear hb1
  obtain ⟨p0, p1, p2, p3, p4, e0, e1, e2, e3, e4, hz0⟩ := id P1
  obtain ⟨q0, q1, q2, q3, q4, f0, f1, f2, f3, f4, hz⟩ := id Q1
  have HP := Lib.hid P1
  have HQ := Lib.hid Q1
  clear P1 Q1
  go_wp2_with fail
  refine (A1.out _).mono ?_
  rintro x w2 ⟨rfl, rfl⟩
  go_wp2_with fail
  refine (A2.out _).mono ?_
  rintro x w2 ⟨rfl, rfl⟩
  go_wp2_with fail
  refine (copy34 true r F W A cap f g _ (HS.out.below hg1)).mono ?_
  rintro x w2 ⟨v, rfl, hown, hb2⟩
  have hg2 := chain hg1 hb2
  have P2 := HP.out.below hb2
  have Q2 := HQ.out.below hb2
  have sz := hb2.size
  clear hb2 p0 p1 p2 p3 p4 e0 e1 e2 e3 e4 q0 q1 q2 q3 q4 f0 f1 f2 f3 f4 HP HQ hg1 V A1 A2 HS
  obtain ⟨p0, p1, p2, p3, p4, e0, e1, e2, e3, e4, hzp⟩ := id P2
  obtain ⟨q0, q1, q2, q3, q4, f0, f1, f2, f3, f4, hzq⟩ := id Q2
  obtain ⟨b, c9, rfl, hbb, hbl, h9, hm9⟩ := own_some hown
  have HO := Lib.hid hown
  have zz : w.heap.size + 1 < w1.heap.size := hz
  have zz2 : w1.heap.size ≤ w2.heap.size := sz
  go_upto_region 6 with fail
  have P3 := P2.below ((Below.refl _ _).alloc (Nat.le_refl _) (.cells #[.bool true, .bool r, .int .i64 F, .int .i64 W, .slice (some ⟨b, 0, none⟩) 9 c9] 24))
  have Q3 := Q2.below ((Below.refl _ _).alloc (Nat.le_refl _) (.cells #[.bool true, .bool r, .int .i64 F, .int .i64 W, .slice (some ⟨b, 0, none⟩) 9 c9] 24))
  have O3 := PV.new (w := w2) rfl true r F W (some ⟨b, 0, none⟩) 9 c9
  have R3 := hown.alloc (.cells #[.bool true, .bool r, .int .i64 F, .int .i64 W, .slice (some ⟨b, 0, none⟩) 9 c9] 24)
  have G3 : Below w.heap.size w (w2.alloc (.cells #[.bool true, .bool r, .int .i64 F, .int .i64 W, .slice (some ⟨b, 0, none⟩) 9 c9] 24)) := by go_grown
  obtain ⟨w3, hw3⟩ : ∃ w3, w3 = w2.alloc (.cells #[.bool true, .bool r, .int .i64 F, .int .i64 W, .slice (some ⟨b, 0, none⟩) 9 c9] 24) := ⟨_, rfl⟩
  rw [← hw3] at P3 Q3 O3 R3 G3 ⊢
  have hne : b ≠ w2.heap.size := by omega
  clear hw3 P2 Q2 hown p0 p1 p2 p3 p4 q0 q1 q2 q3 q4 f0 f1 f2 f3 f4 h9 hm9 hg2
  obtain ⟨p0, p1, p2, p3, p4, _, _, _, _, _, hzp3⟩ := id P3
  obtain ⟨q0, q1, q2, q3, q4, f0, f1, f2, f3, f4, hzq3⟩ := id Q3
  obtain ⟨o0, o1, o2, o3, o4, g0, g1, g2, g3, g4, hzo3⟩ := id O3
  have HO := Lib.hid R3
  have HP3 := Lib.hid (And.intro G3 (And.intro Q3 O3))
  clear P3 Q3 O3 R3
  clear HA
  obtain k1 := hM
  have hq4 : w2.heap.size ≠ w.heap.size + 1 := by omega
  have hle4 : w.heap.size ≤ w2.heap.size := by omega
  have hne4 : (Value.slice (some ⟨b, 0, none⟩) 9 c9).ownBlock ≠ some w2.heap.size := by simp [Value.ownBlock]; omega
  cases r
  · have hn : Hid (nxR false mv = true) := by show nxR false mv = true; simp [nxR]; try omega
    rcases (by omega : F + -15 ≤ 750 ∨ 750 < F + -15) with kF | kF
    · go_upto_region 22 with fail
      have O4 := (((HP3.out.2.2).setR true).setW (0)).setF (750)
      have Q4 := (((HP3.out.2.1).far hq4 1 (.bool true)).far hq4 3 (.int .i64 (0))).far hq4 2 (.int .i64 (750))
      have HO4 := Lib.hid (ownsRow_setCell_other (a := ⟨w2.heap.size, 2, none⟩) ((ownsRow_setCell_other (a := ⟨w2.heap.size, 3, none⟩) ((ownsRow_setCell_other (a := ⟨w2.heap.size, 1, none⟩) (HO.out) hne4 (.bool true))) hne4 (.int .i64 (0)))) hne4 (.int .i64 (750)))
      have G4 := (((HP3.out.1).setCell (p := ⟨w2.heap.size, 1, none⟩) hle4 (.bool true)).setCell (p := ⟨w2.heap.size, 3, none⟩) hle4 (.int .i64 (0))).setCell (p := ⟨w2.heap.size, 2, none⟩) hle4 (.int .i64 (750))
      obtain ⟨w4, hw4⟩ : ∃ w4, w4 = (((w3.setCell ⟨w2.heap.size, 1, none⟩ (.bool true)).setCell ⟨w2.heap.size, 3, none⟩ (.int .i64 (0))).setCell ⟨w2.heap.size, 2, none⟩ (.int .i64 (750))) := ⟨_, rfl⟩
      simp only [← hw4] at O4 Q4 HO4 G4 ⊢
      clear hw4 HP3 HO o0 o1 o2 o3 o4 g0 g1 g2 g3 g4 q0 q1 q2 q3 q4 f0 f1 f2 f3 f4 p0 p1 p2 p3 p4
      obtain ⟨o0, o1, o2, o3, o4, _, _, _, _, _, _⟩ := O4
      obtain ⟨q0, q1, q2, q3, q4, f0, f1, f2, f3, f4, hzq4⟩ := Q4
      go_wp2_with fail
      refine bodyPost_ret (v := .tuple #[.agg #[.bool true, .bool _, .int .i64 _, .int .i64 _, .slice (some ⟨b, 0, none⟩) 9 c9], .int .i64 _]) (by simp [results, Try.results14, go_sem, q0, q1, q2, q3, q4, hzq4] <;> first | rfl | ((repeat' apply And.intro) <;> rfl)) rfl (.inl ⟨rfl, _, ret_pr ?_ ?_ ?_ ?_, ?_, by go_grown⟩)
      · rw [E1.out]; simp [stepA]
      · rw [E2.out]; simp [stepR, hn.out]
      · rw [E3.out]; simp [stepF, hn.out, clamp]; try omega
      · rw [E4.out]; simp [stepW, hn.out]; try omega
      refine own_mono (base := w1.heap.size) ?_ (by omega)
      repeat refine ownsRow_setCell_other ?_ (by simp [Value.ownBlock]; omega) _
      exact HO4.out
    · go_upto_region 22 with fail
      have O4 := (((HP3.out.2.2).setR true).setW (0)).setF (F + -15)
      have Q4 := (((HP3.out.2.1).far hq4 1 (.bool true)).far hq4 3 (.int .i64 (0))).far hq4 2 (.int .i64 (F + -15))
      have HO4 := Lib.hid (ownsRow_setCell_other (a := ⟨w2.heap.size, 2, none⟩) ((ownsRow_setCell_other (a := ⟨w2.heap.size, 3, none⟩) ((ownsRow_setCell_other (a := ⟨w2.heap.size, 1, none⟩) (HO.out) hne4 (.bool true))) hne4 (.int .i64 (0)))) hne4 (.int .i64 (F + -15)))
      have G4 := (((HP3.out.1).setCell (p := ⟨w2.heap.size, 1, none⟩) hle4 (.bool true)).setCell (p := ⟨w2.heap.size, 3, none⟩) hle4 (.int .i64 (0))).setCell (p := ⟨w2.heap.size, 2, none⟩) hle4 (.int .i64 (F + -15))
      obtain ⟨w4, hw4⟩ : ∃ w4, w4 = (((w3.setCell ⟨w2.heap.size, 1, none⟩ (.bool true)).setCell ⟨w2.heap.size, 3, none⟩ (.int .i64 (0))).setCell ⟨w2.heap.size, 2, none⟩ (.int .i64 (F + -15))) := ⟨_, rfl⟩
      simp only [← hw4] at O4 Q4 HO4 G4 ⊢
      clear hw4 HP3 HO o0 o1 o2 o3 o4 g0 g1 g2 g3 g4 q0 q1 q2 q3 q4 f0 f1 f2 f3 f4 p0 p1 p2 p3 p4
      obtain ⟨o0, o1, o2, o3, o4, _, _, _, _, _, _⟩ := O4
      obtain ⟨q0, q1, q2, q3, q4, f0, f1, f2, f3, f4, hzq4⟩ := Q4
      go_wp2_with fail
      refine bodyPost_ret (v := .tuple #[.agg #[.bool true, .bool _, .int .i64 _, .int .i64 _, .slice (some ⟨b, 0, none⟩) 9 c9], .int .i64 _]) (by simp [results, Try.results14, go_sem, q0, q1, q2, q3, q4, hzq4] <;> first | rfl | ((repeat' apply And.intro) <;> rfl)) rfl (.inl ⟨rfl, _, ret_pr ?_ ?_ ?_ ?_, ?_, by go_grown⟩)
      · rw [E1.out]; simp [stepA]
      · rw [E2.out]; simp [stepR, hn.out]
      · rw [E3.out]; simp [stepF, hn.out, clamp]; try omega
      · rw [E4.out]; simp [stepW, hn.out]; try omega
      refine own_mono (base := w1.heap.size) ?_ (by omega)
      repeat refine ownsRow_setCell_other ?_ (by simp [Value.ownBlock]; omega) _
      exact HO4.out
  · have hn : Hid (nxR true mv = true) := by show nxR true mv = true; simp [nxR]; try omega
    go_upto_region 18 with fail
    rcases (by omega : W = 1000 ∨ W = 999 ∨ W < 999) with rfl | rfl | k3
    · rcases (by omega : F + -1 ≤ 750 ∨ 750 < F + -1) with kF | kF
      · go_upto_region 22 with fail
        have O4 := (((HP3.out.2.2).setR true).setW (1000)).setF (750)
        have Q4 := (((HP3.out.2.1).far hq4 1 (.bool true)).far hq4 3 (.int .i64 (1000))).far hq4 2 (.int .i64 (750))
        have HO4 := Lib.hid (ownsRow_setCell_other (a := ⟨w2.heap.size, 2, none⟩) ((ownsRow_setCell_other (a := ⟨w2.heap.size, 3, none⟩) ((ownsRow_setCell_other (a := ⟨w2.heap.size, 1, none⟩) (HO.out) hne4 (.bool true))) hne4 (.int .i64 (1000)))) hne4 (.int .i64 (750)))
        have G4 := (((HP3.out.1).setCell (p := ⟨w2.heap.size, 1, none⟩) hle4 (.bool true)).setCell (p := ⟨w2.heap.size, 3, none⟩) hle4 (.int .i64 (1000))).setCell (p := ⟨w2.heap.size, 2, none⟩) hle4 (.int .i64 (750))
        obtain ⟨w4, hw4⟩ : ∃ w4, w4 = (((w3.setCell ⟨w2.heap.size, 1, none⟩ (.bool true)).setCell ⟨w2.heap.size, 3, none⟩ (.int .i64 (1000))).setCell ⟨w2.heap.size, 2, none⟩ (.int .i64 (750))) := ⟨_, rfl⟩
        simp only [← hw4] at O4 Q4 HO4 G4 ⊢
        clear hw4 HP3 HO o0 o1 o2 o3 o4 g0 g1 g2 g3 g4 q0 q1 q2 q3 q4 f0 f1 f2 f3 f4 p0 p1 p2 p3 p4
        obtain ⟨o0, o1, o2, o3, o4, _, _, _, _, _, _⟩ := O4
        obtain ⟨q0, q1, q2, q3, q4, f0, f1, f2, f3, f4, hzq4⟩ := Q4
        go_wp2_with fail
        refine bodyPost_ret (v := .tuple #[.agg #[.bool true, .bool _, .int .i64 _, .int .i64 _, .slice (some ⟨b, 0, none⟩) 9 c9], .int .i64 _]) (by simp [results, Try.results14, go_sem, q0, q1, q2, q3, q4, hzq4] <;> first | rfl | ((repeat' apply And.intro) <;> rfl)) rfl (.inl ⟨rfl, _, ret_pr ?_ ?_ ?_ ?_, ?_, by go_grown⟩)
        · rw [E1.out]; simp [stepA]
        · rw [E2.out]; simp [stepR, hn.out]
        · rw [E3.out]; simp [stepF, hn.out, clamp]; try omega
        · rw [E4.out]; simp [stepW, hn.out]; try omega
        refine own_mono (base := w1.heap.size) ?_ (by omega)
        repeat refine ownsRow_setCell_other ?_ (by simp [Value.ownBlock]; omega) _
        exact HO4.out
      · go_upto_region 22 with fail
        have O4 := (((HP3.out.2.2).setR true).setW (1000)).setF (F + -1)
        have Q4 := (((HP3.out.2.1).far hq4 1 (.bool true)).far hq4 3 (.int .i64 (1000))).far hq4 2 (.int .i64 (F + -1))
        have HO4 := Lib.hid (ownsRow_setCell_other (a := ⟨w2.heap.size, 2, none⟩) ((ownsRow_setCell_other (a := ⟨w2.heap.size, 3, none⟩) ((ownsRow_setCell_other (a := ⟨w2.heap.size, 1, none⟩) (HO.out) hne4 (.bool true))) hne4 (.int .i64 (1000)))) hne4 (.int .i64 (F + -1)))
        have G4 := (((HP3.out.1).setCell (p := ⟨w2.heap.size, 1, none⟩) hle4 (.bool true)).setCell (p := ⟨w2.heap.size, 3, none⟩) hle4 (.int .i64 (1000))).setCell (p := ⟨w2.heap.size, 2, none⟩) hle4 (.int .i64 (F + -1))
        obtain ⟨w4, hw4⟩ : ∃ w4, w4 = (((w3.setCell ⟨w2.heap.size, 1, none⟩ (.bool true)).setCell ⟨w2.heap.size, 3, none⟩ (.int .i64 (1000))).setCell ⟨w2.heap.size, 2, none⟩ (.int .i64 (F + -1))) := ⟨_, rfl⟩
        simp only [← hw4] at O4 Q4 HO4 G4 ⊢
        clear hw4 HP3 HO o0 o1 o2 o3 o4 g0 g1 g2 g3 g4 q0 q1 q2 q3 q4 f0 f1 f2 f3 f4 p0 p1 p2 p3 p4
        obtain ⟨o0, o1, o2, o3, o4, _, _, _, _, _, _⟩ := O4
        obtain ⟨q0, q1, q2, q3, q4, f0, f1, f2, f3, f4, hzq4⟩ := Q4
        go_wp2_with fail
        refine bodyPost_ret (v := .tuple #[.agg #[.bool true, .bool _, .int .i64 _, .int .i64 _, .slice (some ⟨b, 0, none⟩) 9 c9], .int .i64 _]) (by simp [results, Try.results14, go_sem, q0, q1, q2, q3, q4, hzq4] <;> first | rfl | ((repeat' apply And.intro) <;> rfl)) rfl (.inl ⟨rfl, _, ret_pr ?_ ?_ ?_ ?_, ?_, by go_grown⟩)
        · rw [E1.out]; simp [stepA]
        · rw [E2.out]; simp [stepR, hn.out]
        · rw [E3.out]; simp [stepF, hn.out, clamp]; try omega
        · rw [E4.out]; simp [stepW, hn.out]; try omega
        refine own_mono (base := w1.heap.size) ?_ (by omega)
        repeat refine ownsRow_setCell_other ?_ (by simp [Value.ownBlock]; omega) _
        exact HO4.out
    · rcases (by omega : F + -1 ≤ 750 ∨ 750 < F + -1) with kF | kF
      · go_upto_region 22 with fail
        have O4 := (((HP3.out.2.2).setR true).setW (1000)).setF (750)
        have Q4 := (((HP3.out.2.1).far hq4 1 (.bool true)).far hq4 3 (.int .i64 (1000))).far hq4 2 (.int .i64 (750))
        have HO4 := Lib.hid (ownsRow_setCell_other (a := ⟨w2.heap.size, 2, none⟩) ((ownsRow_setCell_other (a := ⟨w2.heap.size, 3, none⟩) ((ownsRow_setCell_other (a := ⟨w2.heap.size, 1, none⟩) (HO.out) hne4 (.bool true))) hne4 (.int .i64 (1000)))) hne4 (.int .i64 (750)))
        have G4 := (((HP3.out.1).setCell (p := ⟨w2.heap.size, 1, none⟩) hle4 (.bool true)).setCell (p := ⟨w2.heap.size, 3, none⟩) hle4 (.int .i64 (1000))).setCell (p := ⟨w2.heap.size, 2, none⟩) hle4 (.int .i64 (750))
        obtain ⟨w4, hw4⟩ : ∃ w4, w4 = (((w3.setCell ⟨w2.heap.size, 1, none⟩ (.bool true)).setCell ⟨w2.heap.size, 3, none⟩ (.int .i64 (1000))).setCell ⟨w2.heap.size, 2, none⟩ (.int .i64 (750))) := ⟨_, rfl⟩
        simp only [← hw4] at O4 Q4 HO4 G4 ⊢
        clear hw4 HP3 HO o0 o1 o2 o3 o4 g0 g1 g2 g3 g4 q0 q1 q2 q3 q4 f0 f1 f2 f3 f4 p0 p1 p2 p3 p4
        obtain ⟨o0, o1, o2, o3, o4, _, _, _, _, _, _⟩ := O4
        obtain ⟨q0, q1, q2, q3, q4, f0, f1, f2, f3, f4, hzq4⟩ := Q4
        go_wp2_with fail
        refine bodyPost_ret (v := .tuple #[.agg #[.bool true, .bool _, .int .i64 _, .int .i64 _, .slice (some ⟨b, 0, none⟩) 9 c9], .int .i64 _]) (by simp [results, Try.results14, go_sem, q0, q1, q2, q3, q4, hzq4] <;> first | rfl | ((repeat' apply And.intro) <;> rfl)) rfl (.inl ⟨rfl, _, ret_pr ?_ ?_ ?_ ?_, ?_, by go_grown⟩)
        · rw [E1.out]; simp [stepA]
        · rw [E2.out]; simp [stepR, hn.out]
        · rw [E3.out]; simp [stepF, hn.out, clamp]; try omega
        · rw [E4.out]; simp [stepW, hn.out]; try omega
        refine own_mono (base := w1.heap.size) ?_ (by omega)
        repeat refine ownsRow_setCell_other ?_ (by simp [Value.ownBlock]; omega) _
        exact HO4.out
      · go_upto_region 22 with fail
        have O4 := (((HP3.out.2.2).setR true).setW (1000)).setF (F + -1)
        have Q4 := (((HP3.out.2.1).far hq4 1 (.bool true)).far hq4 3 (.int .i64 (1000))).far hq4 2 (.int .i64 (F + -1))
        have HO4 := Lib.hid (ownsRow_setCell_other (a := ⟨w2.heap.size, 2, none⟩) ((ownsRow_setCell_other (a := ⟨w2.heap.size, 3, none⟩) ((ownsRow_setCell_other (a := ⟨w2.heap.size, 1, none⟩) (HO.out) hne4 (.bool true))) hne4 (.int .i64 (1000)))) hne4 (.int .i64 (F + -1)))
        have G4 := (((HP3.out.1).setCell (p := ⟨w2.heap.size, 1, none⟩) hle4 (.bool true)).setCell (p := ⟨w2.heap.size, 3, none⟩) hle4 (.int .i64 (1000))).setCell (p := ⟨w2.heap.size, 2, none⟩) hle4 (.int .i64 (F + -1))
        obtain ⟨w4, hw4⟩ : ∃ w4, w4 = (((w3.setCell ⟨w2.heap.size, 1, none⟩ (.bool true)).setCell ⟨w2.heap.size, 3, none⟩ (.int .i64 (1000))).setCell ⟨w2.heap.size, 2, none⟩ (.int .i64 (F + -1))) := ⟨_, rfl⟩
        simp only [← hw4] at O4 Q4 HO4 G4 ⊢
        clear hw4 HP3 HO o0 o1 o2 o3 o4 g0 g1 g2 g3 g4 q0 q1 q2 q3 q4 f0 f1 f2 f3 f4 p0 p1 p2 p3 p4
        obtain ⟨o0, o1, o2, o3, o4, _, _, _, _, _, _⟩ := O4
        obtain ⟨q0, q1, q2, q3, q4, f0, f1, f2, f3, f4, hzq4⟩ := Q4
        go_wp2_with fail
        refine bodyPost_ret (v := .tuple #[.agg #[.bool true, .bool _, .int .i64 _, .int .i64 _, .slice (some ⟨b, 0, none⟩) 9 c9], .int .i64 _]) (by simp [results, Try.results14, go_sem, q0, q1, q2, q3, q4, hzq4] <;> first | rfl | ((repeat' apply And.intro) <;> rfl)) rfl (.inl ⟨rfl, _, ret_pr ?_ ?_ ?_ ?_, ?_, by go_grown⟩)
        · rw [E1.out]; simp [stepA]
        · rw [E2.out]; simp [stepR, hn.out]
        · rw [E3.out]; simp [stepF, hn.out, clamp]; try omega
        · rw [E4.out]; simp [stepW, hn.out]; try omega
        refine own_mono (base := w1.heap.size) ?_ (by omega)
        repeat refine ownsRow_setCell_other ?_ (by simp [Value.ownBlock]; omega) _
        exact HO4.out
    · rcases (by omega : F + -1 ≤ 750 ∨ 750 < F + -1) with kF | kF
      · go_upto_region 22 with fail
        have O4 := (((HP3.out.2.2).setR true).setW (W + 1)).setF (750)
        have Q4 := (((HP3.out.2.1).far hq4 1 (.bool true)).far hq4 3 (.int .i64 (W + 1))).far hq4 2 (.int .i64 (750))
        have HO4 := Lib.hid (ownsRow_setCell_other (a := ⟨w2.heap.size, 2, none⟩) ((ownsRow_setCell_other (a := ⟨w2.heap.size, 3, none⟩) ((ownsRow_setCell_other (a := ⟨w2.heap.size, 1, none⟩) (HO.out) hne4 (.bool true))) hne4 (.int .i64 (W + 1)))) hne4 (.int .i64 (750)))
        have G4 := (((HP3.out.1).setCell (p := ⟨w2.heap.size, 1, none⟩) hle4 (.bool true)).setCell (p := ⟨w2.heap.size, 3, none⟩) hle4 (.int .i64 (W + 1))).setCell (p := ⟨w2.heap.size, 2, none⟩) hle4 (.int .i64 (750))
        obtain ⟨w4, hw4⟩ : ∃ w4, w4 = (((w3.setCell ⟨w2.heap.size, 1, none⟩ (.bool true)).setCell ⟨w2.heap.size, 3, none⟩ (.int .i64 (W + 1))).setCell ⟨w2.heap.size, 2, none⟩ (.int .i64 (750))) := ⟨_, rfl⟩
        simp only [← hw4] at O4 Q4 HO4 G4 ⊢
        clear hw4 HP3 HO o0 o1 o2 o3 o4 g0 g1 g2 g3 g4 q0 q1 q2 q3 q4 f0 f1 f2 f3 f4 p0 p1 p2 p3 p4
        obtain ⟨o0, o1, o2, o3, o4, _, _, _, _, _, _⟩ := O4
        obtain ⟨q0, q1, q2, q3, q4, f0, f1, f2, f3, f4, hzq4⟩ := Q4
        go_wp2_with fail
        refine bodyPost_ret (v := .tuple #[.agg #[.bool true, .bool _, .int .i64 _, .int .i64 _, .slice (some ⟨b, 0, none⟩) 9 c9], .int .i64 _]) (by simp [results, Try.results14, go_sem, q0, q1, q2, q3, q4, hzq4] <;> first | rfl | ((repeat' apply And.intro) <;> rfl)) rfl (.inl ⟨rfl, _, ret_pr ?_ ?_ ?_ ?_, ?_, by go_grown⟩)
        · rw [E1.out]; simp [stepA]
        · rw [E2.out]; simp [stepR, hn.out]
        · rw [E3.out]; simp [stepF, hn.out, clamp]; try omega
        · rw [E4.out]; simp [stepW, hn.out]; try omega
        refine own_mono (base := w1.heap.size) ?_ (by omega)
        repeat refine ownsRow_setCell_other ?_ (by simp [Value.ownBlock]; omega) _
        exact HO4.out
      · go_upto_region 22 with fail
        have O4 := (((HP3.out.2.2).setR true).setW (W + 1)).setF (F + -1)
        have Q4 := (((HP3.out.2.1).far hq4 1 (.bool true)).far hq4 3 (.int .i64 (W + 1))).far hq4 2 (.int .i64 (F + -1))
        have HO4 := Lib.hid (ownsRow_setCell_other (a := ⟨w2.heap.size, 2, none⟩) ((ownsRow_setCell_other (a := ⟨w2.heap.size, 3, none⟩) ((ownsRow_setCell_other (a := ⟨w2.heap.size, 1, none⟩) (HO.out) hne4 (.bool true))) hne4 (.int .i64 (W + 1)))) hne4 (.int .i64 (F + -1)))
        have G4 := (((HP3.out.1).setCell (p := ⟨w2.heap.size, 1, none⟩) hle4 (.bool true)).setCell (p := ⟨w2.heap.size, 3, none⟩) hle4 (.int .i64 (W + 1))).setCell (p := ⟨w2.heap.size, 2, none⟩) hle4 (.int .i64 (F + -1))
        obtain ⟨w4, hw4⟩ : ∃ w4, w4 = (((w3.setCell ⟨w2.heap.size, 1, none⟩ (.bool true)).setCell ⟨w2.heap.size, 3, none⟩ (.int .i64 (W + 1))).setCell ⟨w2.heap.size, 2, none⟩ (.int .i64 (F + -1))) := ⟨_, rfl⟩
        simp only [← hw4] at O4 Q4 HO4 G4 ⊢
        clear hw4 HP3 HO o0 o1 o2 o3 o4 g0 g1 g2 g3 g4 q0 q1 q2 q3 q4 f0 f1 f2 f3 f4 p0 p1 p2 p3 p4
        obtain ⟨o0, o1, o2, o3, o4, _, _, _, _, _, _⟩ := O4
        obtain ⟨q0, q1, q2, q3, q4, f0, f1, f2, f3, f4, hzq4⟩ := Q4
        go_wp2_with fail
        refine bodyPost_ret (v := .tuple #[.agg #[.bool true, .bool _, .int .i64 _, .int .i64 _, .slice (some ⟨b, 0, none⟩) 9 c9], .int .i64 _]) (by simp [results, Try.results14, go_sem, q0, q1, q2, q3, q4, hzq4] <;> first | rfl | ((repeat' apply And.intro) <;> rfl)) rfl (.inl ⟨rfl, _, ret_pr ?_ ?_ ?_ ?_, ?_, by go_grown⟩)
        · rw [E1.out]; simp [stepA]
        · rw [E2.out]; simp [stepR, hn.out]
        · rw [E3.out]; simp [stepF, hn.out, clamp]; try omega
        · rw [E4.out]; simp [stepW, hn.out]; try omega
        refine own_mono (base := w1.heap.size) ?_ (by omega)
        repeat refine ownsRow_setCell_other ?_ (by simp [Value.ownBlock]; omega) _
        exact HO4.out
set_option maxHeartbeats 4000000 in
theorem step14_mid (r : Bool) (F W : Int) (A : Option Addr) (n cap : Nat) (f g : Nat → Int) (mv s c : Int) (w : World) (hs : Cls w A n f g) (hl : n ≤ 9223372036854775807) (h : okP true r F W n f g = true) (h2 : (pt s c && inB mv 0 20000) = true) (hM : 400 ≤ mv ∧ mv ≤ 500) : Calls Try.prog 14 #[.agg #[.bool true, .bool r, .int .i64 F, .int .i64 W, .slice A n cap], .int .i64 mv, .int .i64 s, .int .i64 c] w (StPost 0 (stepA true mv) (stepR true r mv) (stepF true r F mv) (stepW true r W mv) f g w) := by
  obtain ⟨F0, F1, W0, W1, rfl, ha, _⟩ := okP_bd h
  have V := fun w h => valid21 true r F W A 9 cap f g w h hl
  have HS := Lib.hid hs
  clear hs
  rw [h] at V
  replace V := Lib.hid V
  clear h
  simp only [Bool.and_eq_true] at h2
  have A1 := fun w => point32 s c w
  have A2 := fun w => in33 mv 0 20000 w
  rw [h2.1] at A1
  rw [h2.2] at A2
  obtain ⟨m0, m1⟩ := inB_t h2.2
  replace A1 := Lib.hid A1
  replace A2 := Lib.hid A2
  clear h2
  obtain ⟨a', ha'⟩ : ∃ x, x = stepA true mv := ⟨_, rfl⟩
  obtain ⟨r', hr'⟩ : ∃ x, x = stepR true r mv := ⟨_, rfl⟩
  obtain ⟨F', hF'⟩ : ∃ x, x = stepF true r F mv := ⟨_, rfl⟩
  obtain ⟨W', hW'⟩ : ∃ x, x = stepW true r W mv := ⟨_, rfl⟩
  rw [← ha', ← hr', ← hF', ← hW']
  have E1 := Lib.hid ha'
  have E2 := Lib.hid hr'
  have E3 := Lib.hid hF'
  have E4 := Lib.hid hW'
  have HA := Lib.hid ha
  clear ha' hr' hF' hW' ha
  go_enter Try.func14, Try.ntmps14
  go_wp2_with fail
  refine (V.out _ (HS.out.below (by go_grown))).mono ?_
  rintro x w1 ⟨rfl, hb1⟩
  have hg1 := chain (w := w) (by go_grown) hb1
  have P1 := ((PV.new (w := w) rfl _ _ _ _ _ _ _).below ((Below.refl _ _).alloc (Nat.le_refl _) _)).below hb1
  have Q1 := (PV.new (P := w.heap.size + 1) (by simp) _ _ _ _ _ _ _).below hb1
  clear hb1
  obtain ⟨p0, p1, p2, p3, p4, e0, e1, e2, e3, e4, hz0⟩ := id P1
  obtain ⟨q0, q1, q2, q3, q4, f0, f1, f2, f3, f4, hz⟩ := id Q1
  have HP := Lib.hid P1
  have HQ := Lib.hid Q1
  clear P1 Q1
  go_wp2_with fail
  refine (A1.out _).mono ?_
  rintro x w2 ⟨rfl, rfl⟩
  go_wp2_with fail
  refine (A2.out _).mono ?_
  rintro x w2 ⟨rfl, rfl⟩
  go_wp2_with fail
  refine (copy34 true r F W A cap f g _ (HS.out.below hg1)).mono ?_
  rintro x w2 ⟨v, rfl, hown, hb2⟩
  have hg2 := chain hg1 hb2
  have P2 := HP.out.below hb2
  have Q2 := HQ.out.below hb2
  have sz := hb2.size
  clear hb2 p0 p1 p2 p3 p4 e0 e1 e2 e3 e4 q0 q1 q2 q3 q4 f0 f1 f2 f3 f4 HP HQ hg1 V A1 A2 HS
  obtain ⟨p0, p1, p2, p3, p4, e0, e1, e2, e3, e4, hzp⟩ := id P2
  obtain ⟨q0, q1, q2, q3, q4, f0, f1, f2, f3, f4, hzq⟩ := id Q2
  obtain ⟨b, c9, rfl, hbb, hbl, h9, hm9⟩ := own_some hown
  have HO := Lib.hid hown
  have zz : w.heap.size + 1 < w1.heap.size := hz
  have zz2 : w1.heap.size ≤ w2.heap.size := sz
  go_upto_region 6 with fail
  have P3 := P2.below ((Below.refl _ _).alloc (Nat.le_refl _) (.cells #[.bool true, .bool r, .int .i64 F, .int .i64 W, .slice (some ⟨b, 0, none⟩) 9 c9] 24))
  have Q3 := Q2.below ((Below.refl _ _).alloc (Nat.le_refl _) (.cells #[.bool true, .bool r, .int .i64 F, .int .i64 W, .slice (some ⟨b, 0, none⟩) 9 c9] 24))
  have O3 := PV.new (w := w2) rfl true r F W (some ⟨b, 0, none⟩) 9 c9
  have R3 := hown.alloc (.cells #[.bool true, .bool r, .int .i64 F, .int .i64 W, .slice (some ⟨b, 0, none⟩) 9 c9] 24)
  have G3 : Below w.heap.size w (w2.alloc (.cells #[.bool true, .bool r, .int .i64 F, .int .i64 W, .slice (some ⟨b, 0, none⟩) 9 c9] 24)) := by go_grown
  obtain ⟨w3, hw3⟩ : ∃ w3, w3 = w2.alloc (.cells #[.bool true, .bool r, .int .i64 F, .int .i64 W, .slice (some ⟨b, 0, none⟩) 9 c9] 24) := ⟨_, rfl⟩
  rw [← hw3] at P3 Q3 O3 R3 G3 ⊢
  have hne : b ≠ w2.heap.size := by omega
  clear hw3 P2 Q2 hown p0 p1 p2 p3 p4 q0 q1 q2 q3 q4 f0 f1 f2 f3 f4 h9 hm9 hg2
  obtain ⟨p0, p1, p2, p3, p4, _, _, _, _, _, hzp3⟩ := id P3
  obtain ⟨q0, q1, q2, q3, q4, f0, f1, f2, f3, f4, hzq3⟩ := id Q3
  obtain ⟨o0, o1, o2, o3, o4, g0, g1, g2, g3, g4, hzo3⟩ := id O3
  have HO := Lib.hid R3
  have HP3 := Lib.hid (And.intro G3 (And.intro Q3 O3))
  clear P3 Q3 O3 R3
  clear HA
  obtain ⟨k1, k2⟩ := hM
  have hd1 : decide ((500 : Int) < mv) = false := by simp; omega
  have hq4 : w2.heap.size ≠ w.heap.size + 1 := by omega
  have hle4 : w.heap.size ≤ w2.heap.size := by omega
  have hne4 : (Value.slice (some ⟨b, 0, none⟩) 9 c9).ownBlock ≠ some w2.heap.size := by simp [Value.ownBlock]; omega
  cases r
  · have hn : Hid (nxR false mv = false) := by show nxR false mv = false; simp [nxR]; try omega
    go_upto_region 18 with fail
    rcases (by omega : W = 1000 ∨ W = 999 ∨ W < 999) with rfl | rfl | k3
    · rcases (by omega : 1250 ≤ F + 1 ∨ F + 1 < 1250) with kF | kF
      · go_upto_region 22 with fail
        have O4 := ((HP3.out.2.2).setW (1000)).setF (1250)
        have Q4 := ((HP3.out.2.1).far hq4 3 (.int .i64 (1000))).far hq4 2 (.int .i64 (1250))
        have HO4 := Lib.hid (ownsRow_setCell_other (a := ⟨w2.heap.size, 2, none⟩) ((ownsRow_setCell_other (a := ⟨w2.heap.size, 3, none⟩) (HO.out) hne4 (.int .i64 (1000)))) hne4 (.int .i64 (1250)))
        have G4 := ((HP3.out.1).setCell (p := ⟨w2.heap.size, 3, none⟩) hle4 (.int .i64 (1000))).setCell (p := ⟨w2.heap.size, 2, none⟩) hle4 (.int .i64 (1250))
        obtain ⟨w4, hw4⟩ : ∃ w4, w4 = ((w3.setCell ⟨w2.heap.size, 3, none⟩ (.int .i64 (1000))).setCell ⟨w2.heap.size, 2, none⟩ (.int .i64 (1250))) := ⟨_, rfl⟩
        simp only [← hw4] at O4 Q4 HO4 G4 ⊢
        clear hw4 HP3 HO o0 o1 o2 o3 o4 g0 g1 g2 g3 g4 q0 q1 q2 q3 q4 f0 f1 f2 f3 f4 p0 p1 p2 p3 p4
        obtain ⟨o0, o1, o2, o3, o4, _, _, _, _, _, _⟩ := O4
        obtain ⟨q0, q1, q2, q3, q4, f0, f1, f2, f3, f4, hzq4⟩ := Q4
        go_wp2_with fail
        refine bodyPost_ret (v := .tuple #[.agg #[.bool true, .bool _, .int .i64 _, .int .i64 _, .slice (some ⟨b, 0, none⟩) 9 c9], .int .i64 _]) (by simp [results, Try.results14, go_sem, q0, q1, q2, q3, q4, hzq4] <;> first | rfl | ((repeat' apply And.intro) <;> rfl)) rfl (.inl ⟨rfl, _, ret_pr ?_ ?_ ?_ ?_, ?_, by go_grown⟩)
        · rw [E1.out]; simp [stepA]
        · rw [E2.out]; simp [stepR, hn.out]
        · rw [E3.out]; simp [stepF, hn.out, clamp]; try omega
        · rw [E4.out]; simp [stepW, hn.out]; try omega
        refine own_mono (base := w1.heap.size) ?_ (by omega)
        repeat refine ownsRow_setCell_other ?_ (by simp [Value.ownBlock]; omega) _
        exact HO4.out
      · go_upto_region 22 with fail
        have O4 := ((HP3.out.2.2).setW (1000)).setF (F + 1)
        have Q4 := ((HP3.out.2.1).far hq4 3 (.int .i64 (1000))).far hq4 2 (.int .i64 (F + 1))
        have HO4 := Lib.hid (ownsRow_setCell_other (a := ⟨w2.heap.size, 2, none⟩) ((ownsRow_setCell_other (a := ⟨w2.heap.size, 3, none⟩) (HO.out) hne4 (.int .i64 (1000)))) hne4 (.int .i64 (F + 1)))
        have G4 := ((HP3.out.1).setCell (p := ⟨w2.heap.size, 3, none⟩) hle4 (.int .i64 (1000))).setCell (p := ⟨w2.heap.size, 2, none⟩) hle4 (.int .i64 (F + 1))
        obtain ⟨w4, hw4⟩ : ∃ w4, w4 = ((w3.setCell ⟨w2.heap.size, 3, none⟩ (.int .i64 (1000))).setCell ⟨w2.heap.size, 2, none⟩ (.int .i64 (F + 1))) := ⟨_, rfl⟩
        simp only [← hw4] at O4 Q4 HO4 G4 ⊢
        clear hw4 HP3 HO o0 o1 o2 o3 o4 g0 g1 g2 g3 g4 q0 q1 q2 q3 q4 f0 f1 f2 f3 f4 p0 p1 p2 p3 p4
        obtain ⟨o0, o1, o2, o3, o4, _, _, _, _, _, _⟩ := O4
        obtain ⟨q0, q1, q2, q3, q4, f0, f1, f2, f3, f4, hzq4⟩ := Q4
        go_wp2_with fail
        refine bodyPost_ret (v := .tuple #[.agg #[.bool true, .bool _, .int .i64 _, .int .i64 _, .slice (some ⟨b, 0, none⟩) 9 c9], .int .i64 _]) (by simp [results, Try.results14, go_sem, q0, q1, q2, q3, q4, hzq4] <;> first | rfl | ((repeat' apply And.intro) <;> rfl)) rfl (.inl ⟨rfl, _, ret_pr ?_ ?_ ?_ ?_, ?_, by go_grown⟩)
        · rw [E1.out]; simp [stepA]
        · rw [E2.out]; simp [stepR, hn.out]
        · rw [E3.out]; simp [stepF, hn.out, clamp]; try omega
        · rw [E4.out]; simp [stepW, hn.out]; try omega
        refine own_mono (base := w1.heap.size) ?_ (by omega)
        repeat refine ownsRow_setCell_other ?_ (by simp [Value.ownBlock]; omega) _
        exact HO4.out
    · rcases (by omega : 1250 ≤ F + 1 ∨ F + 1 < 1250) with kF | kF
      · go_upto_region 22 with fail
        have O4 := ((HP3.out.2.2).setW (1000)).setF (1250)
        have Q4 := ((HP3.out.2.1).far hq4 3 (.int .i64 (1000))).far hq4 2 (.int .i64 (1250))
        have HO4 := Lib.hid (ownsRow_setCell_other (a := ⟨w2.heap.size, 2, none⟩) ((ownsRow_setCell_other (a := ⟨w2.heap.size, 3, none⟩) (HO.out) hne4 (.int .i64 (1000)))) hne4 (.int .i64 (1250)))
        have G4 := ((HP3.out.1).setCell (p := ⟨w2.heap.size, 3, none⟩) hle4 (.int .i64 (1000))).setCell (p := ⟨w2.heap.size, 2, none⟩) hle4 (.int .i64 (1250))
        obtain ⟨w4, hw4⟩ : ∃ w4, w4 = ((w3.setCell ⟨w2.heap.size, 3, none⟩ (.int .i64 (1000))).setCell ⟨w2.heap.size, 2, none⟩ (.int .i64 (1250))) := ⟨_, rfl⟩
        simp only [← hw4] at O4 Q4 HO4 G4 ⊢
        clear hw4 HP3 HO o0 o1 o2 o3 o4 g0 g1 g2 g3 g4 q0 q1 q2 q3 q4 f0 f1 f2 f3 f4 p0 p1 p2 p3 p4
        obtain ⟨o0, o1, o2, o3, o4, _, _, _, _, _, _⟩ := O4
        obtain ⟨q0, q1, q2, q3, q4, f0, f1, f2, f3, f4, hzq4⟩ := Q4
        go_wp2_with fail
        refine bodyPost_ret (v := .tuple #[.agg #[.bool true, .bool _, .int .i64 _, .int .i64 _, .slice (some ⟨b, 0, none⟩) 9 c9], .int .i64 _]) (by simp [results, Try.results14, go_sem, q0, q1, q2, q3, q4, hzq4] <;> first | rfl | ((repeat' apply And.intro) <;> rfl)) rfl (.inl ⟨rfl, _, ret_pr ?_ ?_ ?_ ?_, ?_, by go_grown⟩)
        · rw [E1.out]; simp [stepA]
        · rw [E2.out]; simp [stepR, hn.out]
        · rw [E3.out]; simp [stepF, hn.out, clamp]; try omega
        · rw [E4.out]; simp [stepW, hn.out]; try omega
        refine own_mono (base := w1.heap.size) ?_ (by omega)
        repeat refine ownsRow_setCell_other ?_ (by simp [Value.ownBlock]; omega) _
        exact HO4.out
      · go_upto_region 22 with fail
        have O4 := ((HP3.out.2.2).setW (1000)).setF (F + 1)
        have Q4 := ((HP3.out.2.1).far hq4 3 (.int .i64 (1000))).far hq4 2 (.int .i64 (F + 1))
        have HO4 := Lib.hid (ownsRow_setCell_other (a := ⟨w2.heap.size, 2, none⟩) ((ownsRow_setCell_other (a := ⟨w2.heap.size, 3, none⟩) (HO.out) hne4 (.int .i64 (1000)))) hne4 (.int .i64 (F + 1)))
        have G4 := ((HP3.out.1).setCell (p := ⟨w2.heap.size, 3, none⟩) hle4 (.int .i64 (1000))).setCell (p := ⟨w2.heap.size, 2, none⟩) hle4 (.int .i64 (F + 1))
        obtain ⟨w4, hw4⟩ : ∃ w4, w4 = ((w3.setCell ⟨w2.heap.size, 3, none⟩ (.int .i64 (1000))).setCell ⟨w2.heap.size, 2, none⟩ (.int .i64 (F + 1))) := ⟨_, rfl⟩
        simp only [← hw4] at O4 Q4 HO4 G4 ⊢
        clear hw4 HP3 HO o0 o1 o2 o3 o4 g0 g1 g2 g3 g4 q0 q1 q2 q3 q4 f0 f1 f2 f3 f4 p0 p1 p2 p3 p4
        obtain ⟨o0, o1, o2, o3, o4, _, _, _, _, _, _⟩ := O4
        obtain ⟨q0, q1, q2, q3, q4, f0, f1, f2, f3, f4, hzq4⟩ := Q4
        go_wp2_with fail
        refine bodyPost_ret (v := .tuple #[.agg #[.bool true, .bool _, .int .i64 _, .int .i64 _, .slice (some ⟨b, 0, none⟩) 9 c9], .int .i64 _]) (by simp [results, Try.results14, go_sem, q0, q1, q2, q3, q4, hzq4] <;> first | rfl | ((repeat' apply And.intro) <;> rfl)) rfl (.inl ⟨rfl, _, ret_pr ?_ ?_ ?_ ?_, ?_, by go_grown⟩)
        · rw [E1.out]; simp [stepA]
        · rw [E2.out]; simp [stepR, hn.out]
        · rw [E3.out]; simp [stepF, hn.out, clamp]; try omega
        · rw [E4.out]; simp [stepW, hn.out]; try omega
        refine own_mono (base := w1.heap.size) ?_ (by omega)
        repeat refine ownsRow_setCell_other ?_ (by simp [Value.ownBlock]; omega) _
        exact HO4.out
    · rcases (by omega : 1250 ≤ F + 1 ∨ F + 1 < 1250) with kF | kF
      · go_upto_region 22 with fail
        have O4 := ((HP3.out.2.2).setW (W + 1)).setF (1250)
        have Q4 := ((HP3.out.2.1).far hq4 3 (.int .i64 (W + 1))).far hq4 2 (.int .i64 (1250))
        have HO4 := Lib.hid (ownsRow_setCell_other (a := ⟨w2.heap.size, 2, none⟩) ((ownsRow_setCell_other (a := ⟨w2.heap.size, 3, none⟩) (HO.out) hne4 (.int .i64 (W + 1)))) hne4 (.int .i64 (1250)))
        have G4 := ((HP3.out.1).setCell (p := ⟨w2.heap.size, 3, none⟩) hle4 (.int .i64 (W + 1))).setCell (p := ⟨w2.heap.size, 2, none⟩) hle4 (.int .i64 (1250))
        obtain ⟨w4, hw4⟩ : ∃ w4, w4 = ((w3.setCell ⟨w2.heap.size, 3, none⟩ (.int .i64 (W + 1))).setCell ⟨w2.heap.size, 2, none⟩ (.int .i64 (1250))) := ⟨_, rfl⟩
        simp only [← hw4] at O4 Q4 HO4 G4 ⊢
        clear hw4 HP3 HO o0 o1 o2 o3 o4 g0 g1 g2 g3 g4 q0 q1 q2 q3 q4 f0 f1 f2 f3 f4 p0 p1 p2 p3 p4
        obtain ⟨o0, o1, o2, o3, o4, _, _, _, _, _, _⟩ := O4
        obtain ⟨q0, q1, q2, q3, q4, f0, f1, f2, f3, f4, hzq4⟩ := Q4
        go_wp2_with fail
        refine bodyPost_ret (v := .tuple #[.agg #[.bool true, .bool _, .int .i64 _, .int .i64 _, .slice (some ⟨b, 0, none⟩) 9 c9], .int .i64 _]) (by simp [results, Try.results14, go_sem, q0, q1, q2, q3, q4, hzq4] <;> first | rfl | ((repeat' apply And.intro) <;> rfl)) rfl (.inl ⟨rfl, _, ret_pr ?_ ?_ ?_ ?_, ?_, by go_grown⟩)
        · rw [E1.out]; simp [stepA]
        · rw [E2.out]; simp [stepR, hn.out]
        · rw [E3.out]; simp [stepF, hn.out, clamp]; try omega
        · rw [E4.out]; simp [stepW, hn.out]; try omega
        refine own_mono (base := w1.heap.size) ?_ (by omega)
        repeat refine ownsRow_setCell_other ?_ (by simp [Value.ownBlock]; omega) _
        exact HO4.out
      · go_upto_region 22 with fail
        have O4 := ((HP3.out.2.2).setW (W + 1)).setF (F + 1)
        have Q4 := ((HP3.out.2.1).far hq4 3 (.int .i64 (W + 1))).far hq4 2 (.int .i64 (F + 1))
        have HO4 := Lib.hid (ownsRow_setCell_other (a := ⟨w2.heap.size, 2, none⟩) ((ownsRow_setCell_other (a := ⟨w2.heap.size, 3, none⟩) (HO.out) hne4 (.int .i64 (W + 1)))) hne4 (.int .i64 (F + 1)))
        have G4 := ((HP3.out.1).setCell (p := ⟨w2.heap.size, 3, none⟩) hle4 (.int .i64 (W + 1))).setCell (p := ⟨w2.heap.size, 2, none⟩) hle4 (.int .i64 (F + 1))
        obtain ⟨w4, hw4⟩ : ∃ w4, w4 = ((w3.setCell ⟨w2.heap.size, 3, none⟩ (.int .i64 (W + 1))).setCell ⟨w2.heap.size, 2, none⟩ (.int .i64 (F + 1))) := ⟨_, rfl⟩
        simp only [← hw4] at O4 Q4 HO4 G4 ⊢
        clear hw4 HP3 HO o0 o1 o2 o3 o4 g0 g1 g2 g3 g4 q0 q1 q2 q3 q4 f0 f1 f2 f3 f4 p0 p1 p2 p3 p4
        obtain ⟨o0, o1, o2, o3, o4, _, _, _, _, _, _⟩ := O4
        obtain ⟨q0, q1, q2, q3, q4, f0, f1, f2, f3, f4, hzq4⟩ := Q4
        go_wp2_with fail
        refine bodyPost_ret (v := .tuple #[.agg #[.bool true, .bool _, .int .i64 _, .int .i64 _, .slice (some ⟨b, 0, none⟩) 9 c9], .int .i64 _]) (by simp [results, Try.results14, go_sem, q0, q1, q2, q3, q4, hzq4] <;> first | rfl | ((repeat' apply And.intro) <;> rfl)) rfl (.inl ⟨rfl, _, ret_pr ?_ ?_ ?_ ?_, ?_, by go_grown⟩)
        · rw [E1.out]; simp [stepA]
        · rw [E2.out]; simp [stepR, hn.out]
        · rw [E3.out]; simp [stepF, hn.out, clamp]; try omega
        · rw [E4.out]; simp [stepW, hn.out]; try omega
        refine own_mono (base := w1.heap.size) ?_ (by omega)
        repeat refine ownsRow_setCell_other ?_ (by simp [Value.ownBlock]; omega) _
        exact HO4.out
  · have hn : Hid (nxR true mv = true) := by show nxR true mv = true; simp [nxR]; try omega
    go_upto_region 18 with fail
    rcases (by omega : W = 1000 ∨ W = 999 ∨ W < 999) with rfl | rfl | k3
    · rcases (by omega : F + -1 ≤ 750 ∨ 750 < F + -1) with kF | kF
      · go_upto_region 22 with fail
        have O4 := ((HP3.out.2.2).setW (1000)).setF (750)
        have Q4 := ((HP3.out.2.1).far hq4 3 (.int .i64 (1000))).far hq4 2 (.int .i64 (750))
        have HO4 := Lib.hid (ownsRow_setCell_other (a := ⟨w2.heap.size, 2, none⟩) ((ownsRow_setCell_other (a := ⟨w2.heap.size, 3, none⟩) (HO.out) hne4 (.int .i64 (1000)))) hne4 (.int .i64 (750)))
        have G4 := ((HP3.out.1).setCell (p := ⟨w2.heap.size, 3, none⟩) hle4 (.int .i64 (1000))).setCell (p := ⟨w2.heap.size, 2, none⟩) hle4 (.int .i64 (750))
        obtain ⟨w4, hw4⟩ : ∃ w4, w4 = ((w3.setCell ⟨w2.heap.size, 3, none⟩ (.int .i64 (1000))).setCell ⟨w2.heap.size, 2, none⟩ (.int .i64 (750))) := ⟨_, rfl⟩
        simp only [← hw4] at O4 Q4 HO4 G4 ⊢
        clear hw4 HP3 HO o0 o1 o2 o3 o4 g0 g1 g2 g3 g4 q0 q1 q2 q3 q4 f0 f1 f2 f3 f4 p0 p1 p2 p3 p4
        obtain ⟨o0, o1, o2, o3, o4, _, _, _, _, _, _⟩ := O4
        obtain ⟨q0, q1, q2, q3, q4, f0, f1, f2, f3, f4, hzq4⟩ := Q4
        go_wp2_with fail
        refine bodyPost_ret (v := .tuple #[.agg #[.bool true, .bool _, .int .i64 _, .int .i64 _, .slice (some ⟨b, 0, none⟩) 9 c9], .int .i64 _]) (by simp [results, Try.results14, go_sem, q0, q1, q2, q3, q4, hzq4] <;> first | rfl | ((repeat' apply And.intro) <;> rfl)) rfl (.inl ⟨rfl, _, ret_pr ?_ ?_ ?_ ?_, ?_, by go_grown⟩)
        · rw [E1.out]; simp [stepA]
        · rw [E2.out]; simp [stepR, hn.out]
        · rw [E3.out]; simp [stepF, hn.out, clamp]; try omega
        · rw [E4.out]; simp [stepW, hn.out]; try omega
        refine own_mono (base := w1.heap.size) ?_ (by omega)
        repeat refine ownsRow_setCell_other ?_ (by simp [Value.ownBlock]; omega) _
        exact HO4.out
      · go_upto_region 22 with fail
        have O4 := ((HP3.out.2.2).setW (1000)).setF (F + -1)
        have Q4 := ((HP3.out.2.1).far hq4 3 (.int .i64 (1000))).far hq4 2 (.int .i64 (F + -1))
        have HO4 := Lib.hid (ownsRow_setCell_other (a := ⟨w2.heap.size, 2, none⟩) ((ownsRow_setCell_other (a := ⟨w2.heap.size, 3, none⟩) (HO.out) hne4 (.int .i64 (1000)))) hne4 (.int .i64 (F + -1)))
        have G4 := ((HP3.out.1).setCell (p := ⟨w2.heap.size, 3, none⟩) hle4 (.int .i64 (1000))).setCell (p := ⟨w2.heap.size, 2, none⟩) hle4 (.int .i64 (F + -1))
        obtain ⟨w4, hw4⟩ : ∃ w4, w4 = ((w3.setCell ⟨w2.heap.size, 3, none⟩ (.int .i64 (1000))).setCell ⟨w2.heap.size, 2, none⟩ (.int .i64 (F + -1))) := ⟨_, rfl⟩
        simp only [← hw4] at O4 Q4 HO4 G4 ⊢
        clear hw4 HP3 HO o0 o1 o2 o3 o4 g0 g1 g2 g3 g4 q0 q1 q2 q3 q4 f0 f1 f2 f3 f4 p0 p1 p2 p3 p4
        obtain ⟨o0, o1, o2, o3, o4, _, _, _, _, _, _⟩ := O4
        obtain ⟨q0, q1, q2, q3, q4, f0, f1, f2, f3, f4, hzq4⟩ := Q4
        go_wp2_with fail
        refine bodyPost_ret (v := .tuple #[.agg #[.bool true, .bool _, .int .i64 _, .int .i64 _, .slice (some ⟨b, 0, none⟩) 9 c9], .int .i64 _]) (by simp [results, Try.results14, go_sem, q0, q1, q2, q3, q4, hzq4] <;> first | rfl | ((repeat' apply And.intro) <;> rfl)) rfl (.inl ⟨rfl, _, ret_pr ?_ ?_ ?_ ?_, ?_, by go_grown⟩)
        · rw [E1.out]; simp [stepA]
        · rw [E2.out]; simp [stepR, hn.out]
        · rw [E3.out]; simp [stepF, hn.out, clamp]; try omega
        · rw [E4.out]; simp [stepW, hn.out]; try omega
        refine own_mono (base := w1.heap.size) ?_ (by omega)
        repeat refine ownsRow_setCell_other ?_ (by simp [Value.ownBlock]; omega) _
        exact HO4.out
    · rcases (by omega : F + -1 ≤ 750 ∨ 750 < F + -1) with kF | kF
      · go_upto_region 22 with fail
        have O4 := ((HP3.out.2.2).setW (1000)).setF (750)
        have Q4 := ((HP3.out.2.1).far hq4 3 (.int .i64 (1000))).far hq4 2 (.int .i64 (750))
        have HO4 := Lib.hid (ownsRow_setCell_other (a := ⟨w2.heap.size, 2, none⟩) ((ownsRow_setCell_other (a := ⟨w2.heap.size, 3, none⟩) (HO.out) hne4 (.int .i64 (1000)))) hne4 (.int .i64 (750)))
        have G4 := ((HP3.out.1).setCell (p := ⟨w2.heap.size, 3, none⟩) hle4 (.int .i64 (1000))).setCell (p := ⟨w2.heap.size, 2, none⟩) hle4 (.int .i64 (750))
        obtain ⟨w4, hw4⟩ : ∃ w4, w4 = ((w3.setCell ⟨w2.heap.size, 3, none⟩ (.int .i64 (1000))).setCell ⟨w2.heap.size, 2, none⟩ (.int .i64 (750))) := ⟨_, rfl⟩
        simp only [← hw4] at O4 Q4 HO4 G4 ⊢
        clear hw4 HP3 HO o0 o1 o2 o3 o4 g0 g1 g2 g3 g4 q0 q1 q2 q3 q4 f0 f1 f2 f3 f4 p0 p1 p2 p3 p4
        obtain ⟨o0, o1, o2, o3, o4, _, _, _, _, _, _⟩ := O4
        obtain ⟨q0, q1, q2, q3, q4, f0, f1, f2, f3, f4, hzq4⟩ := Q4
        go_wp2_with fail
        refine bodyPost_ret (v := .tuple #[.agg #[.bool true, .bool _, .int .i64 _, .int .i64 _, .slice (some ⟨b, 0, none⟩) 9 c9], .int .i64 _]) (by simp [results, Try.results14, go_sem, q0, q1, q2, q3, q4, hzq4] <;> first | rfl | ((repeat' apply And.intro) <;> rfl)) rfl (.inl ⟨rfl, _, ret_pr ?_ ?_ ?_ ?_, ?_, by go_grown⟩)
        · rw [E1.out]; simp [stepA]
        · rw [E2.out]; simp [stepR, hn.out]
        · rw [E3.out]; simp [stepF, hn.out, clamp]; try omega
        · rw [E4.out]; simp [stepW, hn.out]; try omega
        refine own_mono (base := w1.heap.size) ?_ (by omega)
        repeat refine ownsRow_setCell_other ?_ (by simp [Value.ownBlock]; omega) _
        exact HO4.out
      · go_upto_region 22 with fail
        have O4 := ((HP3.out.2.2).setW (1000)).setF (F + -1)
        have Q4 := ((HP3.out.2.1).far hq4 3 (.int .i64 (1000))).far hq4 2 (.int .i64 (F + -1))
        have HO4 := Lib.hid (ownsRow_setCell_other (a := ⟨w2.heap.size, 2, none⟩) ((ownsRow_setCell_other (a := ⟨w2.heap.size, 3, none⟩) (HO.out) hne4 (.int .i64 (1000)))) hne4 (.int .i64 (F + -1)))
        have G4 := ((HP3.out.1).setCell (p := ⟨w2.heap.size, 3, none⟩) hle4 (.int .i64 (1000))).setCell (p := ⟨w2.heap.size, 2, none⟩) hle4 (.int .i64 (F + -1))
        obtain ⟨w4, hw4⟩ : ∃ w4, w4 = ((w3.setCell ⟨w2.heap.size, 3, none⟩ (.int .i64 (1000))).setCell ⟨w2.heap.size, 2, none⟩ (.int .i64 (F + -1))) := ⟨_, rfl⟩
        simp only [← hw4] at O4 Q4 HO4 G4 ⊢
        clear hw4 HP3 HO o0 o1 o2 o3 o4 g0 g1 g2 g3 g4 q0 q1 q2 q3 q4 f0 f1 f2 f3 f4 p0 p1 p2 p3 p4
        obtain ⟨o0, o1, o2, o3, o4, _, _, _, _, _, _⟩ := O4
        obtain ⟨q0, q1, q2, q3, q4, f0, f1, f2, f3, f4, hzq4⟩ := Q4
        go_wp2_with fail
        refine bodyPost_ret (v := .tuple #[.agg #[.bool true, .bool _, .int .i64 _, .int .i64 _, .slice (some ⟨b, 0, none⟩) 9 c9], .int .i64 _]) (by simp [results, Try.results14, go_sem, q0, q1, q2, q3, q4, hzq4] <;> first | rfl | ((repeat' apply And.intro) <;> rfl)) rfl (.inl ⟨rfl, _, ret_pr ?_ ?_ ?_ ?_, ?_, by go_grown⟩)
        · rw [E1.out]; simp [stepA]
        · rw [E2.out]; simp [stepR, hn.out]
        · rw [E3.out]; simp [stepF, hn.out, clamp]; try omega
        · rw [E4.out]; simp [stepW, hn.out]; try omega
        refine own_mono (base := w1.heap.size) ?_ (by omega)
        repeat refine ownsRow_setCell_other ?_ (by simp [Value.ownBlock]; omega) _
        exact HO4.out
    · rcases (by omega : F + -1 ≤ 750 ∨ 750 < F + -1) with kF | kF
      · go_upto_region 22 with fail
        have O4 := ((HP3.out.2.2).setW (W + 1)).setF (750)
        have Q4 := ((HP3.out.2.1).far hq4 3 (.int .i64 (W + 1))).far hq4 2 (.int .i64 (750))
        have HO4 := Lib.hid (ownsRow_setCell_other (a := ⟨w2.heap.size, 2, none⟩) ((ownsRow_setCell_other (a := ⟨w2.heap.size, 3, none⟩) (HO.out) hne4 (.int .i64 (W + 1)))) hne4 (.int .i64 (750)))
        have G4 := ((HP3.out.1).setCell (p := ⟨w2.heap.size, 3, none⟩) hle4 (.int .i64 (W + 1))).setCell (p := ⟨w2.heap.size, 2, none⟩) hle4 (.int .i64 (750))
        obtain ⟨w4, hw4⟩ : ∃ w4, w4 = ((w3.setCell ⟨w2.heap.size, 3, none⟩ (.int .i64 (W + 1))).setCell ⟨w2.heap.size, 2, none⟩ (.int .i64 (750))) := ⟨_, rfl⟩
        simp only [← hw4] at O4 Q4 HO4 G4 ⊢
        clear hw4 HP3 HO o0 o1 o2 o3 o4 g0 g1 g2 g3 g4 q0 q1 q2 q3 q4 f0 f1 f2 f3 f4 p0 p1 p2 p3 p4
        obtain ⟨o0, o1, o2, o3, o4, _, _, _, _, _, _⟩ := O4
        obtain ⟨q0, q1, q2, q3, q4, f0, f1, f2, f3, f4, hzq4⟩ := Q4
        go_wp2_with fail
        refine bodyPost_ret (v := .tuple #[.agg #[.bool true, .bool _, .int .i64 _, .int .i64 _, .slice (some ⟨b, 0, none⟩) 9 c9], .int .i64 _]) (by simp [results, Try.results14, go_sem, q0, q1, q2, q3, q4, hzq4] <;> first | rfl | ((repeat' apply And.intro) <;> rfl)) rfl (.inl ⟨rfl, _, ret_pr ?_ ?_ ?_ ?_, ?_, by go_grown⟩)
        · rw [E1.out]; simp [stepA]
        · rw [E2.out]; simp [stepR, hn.out]
        · rw [E3.out]; simp [stepF, hn.out, clamp]; try omega
        · rw [E4.out]; simp [stepW, hn.out]; try omega
        refine own_mono (base := w1.heap.size) ?_ (by omega)
        repeat refine ownsRow_setCell_other ?_ (by simp [Value.ownBlock]; omega) _
        exact HO4.out
      · go_upto_region 22 with fail
        have O4 := ((HP3.out.2.2).setW (W + 1)).setF (F + -1)
        have Q4 := ((HP3.out.2.1).far hq4 3 (.int .i64 (W + 1))).far hq4 2 (.int .i64 (F + -1))
        have HO4 := Lib.hid (ownsRow_setCell_other (a := ⟨w2.heap.size, 2, none⟩) ((ownsRow_setCell_other (a := ⟨w2.heap.size, 3, none⟩) (HO.out) hne4 (.int .i64 (W + 1)))) hne4 (.int .i64 (F + -1)))
        have G4 := ((HP3.out.1).setCell (p := ⟨w2.heap.size, 3, none⟩) hle4 (.int .i64 (W + 1))).setCell (p := ⟨w2.heap.size, 2, none⟩) hle4 (.int .i64 (F + -1))
        obtain ⟨w4, hw4⟩ : ∃ w4, w4 = ((w3.setCell ⟨w2.heap.size, 3, none⟩ (.int .i64 (W + 1))).setCell ⟨w2.heap.size, 2, none⟩ (.int .i64 (F + -1))) := ⟨_, rfl⟩
        simp only [← hw4] at O4 Q4 HO4 G4 ⊢
        clear hw4 HP3 HO o0 o1 o2 o3 o4 g0 g1 g2 g3 g4 q0 q1 q2 q3 q4 f0 f1 f2 f3 f4 p0 p1 p2 p3 p4
        obtain ⟨o0, o1, o2, o3, o4, _, _, _, _, _, _⟩ := O4
        obtain ⟨q0, q1, q2, q3, q4, f0, f1, f2, f3, f4, hzq4⟩ := Q4
        go_wp2_with fail
        refine bodyPost_ret (v := .tuple #[.agg #[.bool true, .bool _, .int .i64 _, .int .i64 _, .slice (some ⟨b, 0, none⟩) 9 c9], .int .i64 _]) (by simp [results, Try.results14, go_sem, q0, q1, q2, q3, q4, hzq4] <;> first | rfl | ((repeat' apply And.intro) <;> rfl)) rfl (.inl ⟨rfl, _, ret_pr ?_ ?_ ?_ ?_, ?_, by go_grown⟩)
        · rw [E1.out]; simp [stepA]
        · rw [E2.out]; simp [stepR, hn.out]
        · rw [E3.out]; simp [stepF, hn.out, clamp]; try omega
        · rw [E4.out]; simp [stepW, hn.out]; try omega
        refine own_mono (base := w1.heap.size) ?_ (by omega)
        repeat refine ownsRow_setCell_other ?_ (by simp [Value.ownBlock]; omega) _
        exact HO4.out
set_option maxHeartbeats 4000000 in
theorem step14_lo (r : Bool) (F W : Int) (A : Option Addr) (n cap : Nat) (f g : Nat → Int) (mv s c : Int) (w : World) (hs : Cls w A n f g) (hl : n ≤ 9223372036854775807) (h : okP true r F W n f g = true) (h2 : (pt s c && inB mv 0 20000) = true) (hM : mv < 400) : Calls Try.prog 14 #[.agg #[.bool true, .bool r, .int .i64 F, .int .i64 W, .slice A n cap], .int .i64 mv, .int .i64 s, .int .i64 c] w (StPost 0 (stepA true mv) (stepR true r mv) (stepF true r F mv) (stepW true r W mv) f g w) := by
  obtain ⟨F0, F1, W0, W1, rfl, ha, _⟩ := okP_bd h
  have V := fun w h => valid21 true r F W A 9 cap f g w h hl
  have HS := Lib.hid hs
  clear hs
  rw [h] at V
  replace V := Lib.hid V
  clear h
  simp only [Bool.and_eq_true] at h2
  have A1 := fun w => point32 s c w
  have A2 := fun w => in33 mv 0 20000 w
  rw [h2.1] at A1
  rw [h2.2] at A2
  obtain ⟨m0, m1⟩ := inB_t h2.2
  replace A1 := Lib.hid A1
  replace A2 := Lib.hid A2
  clear h2
  obtain ⟨a', ha'⟩ : ∃ x, x = stepA true mv := ⟨_, rfl⟩
  obtain ⟨r', hr'⟩ : ∃ x, x = stepR true r mv := ⟨_, rfl⟩
  obtain ⟨F', hF'⟩ : ∃ x, x = stepF true r F mv := ⟨_, rfl⟩
  obtain ⟨W', hW'⟩ : ∃ x, x = stepW true r W mv := ⟨_, rfl⟩
  rw [← ha', ← hr', ← hF', ← hW']
  have E1 := Lib.hid ha'
  have E2 := Lib.hid hr'
  have E3 := Lib.hid hF'
  have E4 := Lib.hid hW'
  have HA := Lib.hid ha
  clear ha' hr' hF' hW' ha
  go_enter Try.func14, Try.ntmps14
  go_wp2_with fail
  refine (V.out _ (HS.out.below (by go_grown))).mono ?_
  rintro x w1 ⟨rfl, hb1⟩
  have hg1 := chain (w := w) (by go_grown) hb1
  have P1 := ((PV.new (w := w) rfl _ _ _ _ _ _ _).below ((Below.refl _ _).alloc (Nat.le_refl _) _)).below hb1
  have Q1 := (PV.new (P := w.heap.size + 1) (by simp) _ _ _ _ _ _ _).below hb1
  clear hb1
  obtain ⟨p0, p1, p2, p3, p4, e0, e1, e2, e3, e4, hz0⟩ := id P1
  obtain ⟨q0, q1, q2, q3, q4, f0, f1, f2, f3, f4, hz⟩ := id Q1
  have HP := Lib.hid P1
  have HQ := Lib.hid Q1
  clear P1 Q1
  go_wp2_with fail
  refine (A1.out _).mono ?_
  rintro x w2 ⟨rfl, rfl⟩
  go_wp2_with fail
  refine (A2.out _).mono ?_
  rintro x w2 ⟨rfl, rfl⟩
  go_wp2_with fail
  refine (copy34 true r F W A cap f g _ (HS.out.below hg1)).mono ?_
  rintro x w2 ⟨v, rfl, hown, hb2⟩
  have hg2 := chain hg1 hb2
  have P2 := HP.out.below hb2
  have Q2 := HQ.out.below hb2
  have sz := hb2.size
  clear hb2 p0 p1 p2 p3 p4 e0 e1 e2 e3 e4 q0 q1 q2 q3 q4 f0 f1 f2 f3 f4 HP HQ hg1 V A1 A2 HS
  obtain ⟨p0, p1, p2, p3, p4, e0, e1, e2, e3, e4, hzp⟩ := id P2
  obtain ⟨q0, q1, q2, q3, q4, f0, f1, f2, f3, f4, hzq⟩ := id Q2
  obtain ⟨b, c9, rfl, hbb, hbl, h9, hm9⟩ := own_some hown
  have HO := Lib.hid hown
  have zz : w.heap.size + 1 < w1.heap.size := hz
  have zz2 : w1.heap.size ≤ w2.heap.size := sz
  go_upto_region 6 with fail
  have P3 := P2.below ((Below.refl _ _).alloc (Nat.le_refl _) (.cells #[.bool true, .bool r, .int .i64 F, .int .i64 W, .slice (some ⟨b, 0, none⟩) 9 c9] 24))
  have Q3 := Q2.below ((Below.refl _ _).alloc (Nat.le_refl _) (.cells #[.bool true, .bool r, .int .i64 F, .int .i64 W, .slice (some ⟨b, 0, none⟩) 9 c9] 24))
  have O3 := PV.new (w := w2) rfl true r F W (some ⟨b, 0, none⟩) 9 c9
  have R3 := hown.alloc (.cells #[.bool true, .bool r, .int .i64 F, .int .i64 W, .slice (some ⟨b, 0, none⟩) 9 c9] 24)
  have G3 : Below w.heap.size w (w2.alloc (.cells #[.bool true, .bool r, .int .i64 F, .int .i64 W, .slice (some ⟨b, 0, none⟩) 9 c9] 24)) := by go_grown
  obtain ⟨w3, hw3⟩ : ∃ w3, w3 = w2.alloc (.cells #[.bool true, .bool r, .int .i64 F, .int .i64 W, .slice (some ⟨b, 0, none⟩) 9 c9] 24) := ⟨_, rfl⟩
  rw [← hw3] at P3 Q3 O3 R3 G3 ⊢
  have hne : b ≠ w2.heap.size := by omega
  clear hw3 P2 Q2 hown p0 p1 p2 p3 p4 q0 q1 q2 q3 q4 f0 f1 f2 f3 f4 h9 hm9 hg2
  obtain ⟨p0, p1, p2, p3, p4, _, _, _, _, _, hzp3⟩ := id P3
  obtain ⟨q0, q1, q2, q3, q4, f0, f1, f2, f3, f4, hzq3⟩ := id Q3
  obtain ⟨o0, o1, o2, o3, o4, g0, g1, g2, g3, g4, hzo3⟩ := id O3
  have HO := Lib.hid R3
  have HP3 := Lib.hid (And.intro G3 (And.intro Q3 O3))
  clear P3 Q3 O3 R3
  clear HA
  obtain k1 := hM
  have hd1 : decide ((500 : Int) < mv) = false := by simp; omega
  have hq4 : w2.heap.size ≠ w.heap.size + 1 := by omega
  have hle4 : w.heap.size ≤ w2.heap.size := by omega
  have hne4 : (Value.slice (some ⟨b, 0, none⟩) 9 c9).ownBlock ≠ some w2.heap.size := by simp [Value.ownBlock]; omega
  cases r
  · have hn : Hid (nxR false mv = false) := by show nxR false mv = false; simp [nxR]; try omega
    go_upto_region 18 with fail
    rcases (by omega : W = 1000 ∨ W = 999 ∨ W < 999) with rfl | rfl | k3
    · rcases (by omega : 1250 ≤ F + 1 ∨ F + 1 < 1250) with kF | kF
      · go_upto_region 22 with fail
        have O4 := (((HP3.out.2.2).setR false).setW (1000)).setF (1250)
        have Q4 := (((HP3.out.2.1).far hq4 1 (.bool false)).far hq4 3 (.int .i64 (1000))).far hq4 2 (.int .i64 (1250))
        have HO4 := Lib.hid (ownsRow_setCell_other (a := ⟨w2.heap.size, 2, none⟩) ((ownsRow_setCell_other (a := ⟨w2.heap.size, 3, none⟩) ((ownsRow_setCell_other (a := ⟨w2.heap.size, 1, none⟩) (HO.out) hne4 (.bool false))) hne4 (.int .i64 (1000)))) hne4 (.int .i64 (1250)))
        have G4 := (((HP3.out.1).setCell (p := ⟨w2.heap.size, 1, none⟩) hle4 (.bool false)).setCell (p := ⟨w2.heap.size, 3, none⟩) hle4 (.int .i64 (1000))).setCell (p := ⟨w2.heap.size, 2, none⟩) hle4 (.int .i64 (1250))
        obtain ⟨w4, hw4⟩ : ∃ w4, w4 = (((w3.setCell ⟨w2.heap.size, 1, none⟩ (.bool false)).setCell ⟨w2.heap.size, 3, none⟩ (.int .i64 (1000))).setCell ⟨w2.heap.size, 2, none⟩ (.int .i64 (1250))) := ⟨_, rfl⟩
        simp only [← hw4] at O4 Q4 HO4 G4 ⊢
        clear hw4 HP3 HO o0 o1 o2 o3 o4 g0 g1 g2 g3 g4 q0 q1 q2 q3 q4 f0 f1 f2 f3 f4 p0 p1 p2 p3 p4
        obtain ⟨o0, o1, o2, o3, o4, _, _, _, _, _, _⟩ := O4
        obtain ⟨q0, q1, q2, q3, q4, f0, f1, f2, f3, f4, hzq4⟩ := Q4
        go_wp2_with fail
        refine bodyPost_ret (v := .tuple #[.agg #[.bool true, .bool _, .int .i64 _, .int .i64 _, .slice (some ⟨b, 0, none⟩) 9 c9], .int .i64 _]) (by simp [results, Try.results14, go_sem, q0, q1, q2, q3, q4, hzq4] <;> first | rfl | ((repeat' apply And.intro) <;> rfl)) rfl (.inl ⟨rfl, _, ret_pr ?_ ?_ ?_ ?_, ?_, by go_grown⟩)
        · rw [E1.out]; simp [stepA]
        · rw [E2.out]; simp [stepR, hn.out]
        · rw [E3.out]; simp [stepF, hn.out, clamp]; try omega
        · rw [E4.out]; simp [stepW, hn.out]; try omega
        refine own_mono (base := w1.heap.size) ?_ (by omega)
        repeat refine ownsRow_setCell_other ?_ (by simp [Value.ownBlock]; omega) _
        exact HO4.out
      · go_upto_region 22 with fail
        have O4 := (((HP3.out.2.2).setR false).setW (1000)).setF (F + 1)
        have Q4 := (((HP3.out.2.1).far hq4 1 (.bool false)).far hq4 3 (.int .i64 (1000))).far hq4 2 (.int .i64 (F + 1))
        have HO4 := Lib.hid (ownsRow_setCell_other (a := ⟨w2.heap.size, 2, none⟩) ((ownsRow_setCell_other (a := ⟨w2.heap.size, 3, none⟩) ((ownsRow_setCell_other (a := ⟨w2.heap.size, 1, none⟩) (HO.out) hne4 (.bool false))) hne4 (.int .i64 (1000)))) hne4 (.int .i64 (F + 1)))
        have G4 := (((HP3.out.1).setCell (p := ⟨w2.heap.size, 1, none⟩) hle4 (.bool false)).setCell (p := ⟨w2.heap.size, 3, none⟩) hle4 (.int .i64 (1000))).setCell (p := ⟨w2.heap.size, 2, none⟩) hle4 (.int .i64 (F + 1))
        obtain ⟨w4, hw4⟩ : ∃ w4, w4 = (((w3.setCell ⟨w2.heap.size, 1, none⟩ (.bool false)).setCell ⟨w2.heap.size, 3, none⟩ (.int .i64 (1000))).setCell ⟨w2.heap.size, 2, none⟩ (.int .i64 (F + 1))) := ⟨_, rfl⟩
        simp only [← hw4] at O4 Q4 HO4 G4 ⊢
        clear hw4 HP3 HO o0 o1 o2 o3 o4 g0 g1 g2 g3 g4 q0 q1 q2 q3 q4 f0 f1 f2 f3 f4 p0 p1 p2 p3 p4
        obtain ⟨o0, o1, o2, o3, o4, _, _, _, _, _, _⟩ := O4
        obtain ⟨q0, q1, q2, q3, q4, f0, f1, f2, f3, f4, hzq4⟩ := Q4
        go_wp2_with fail
        refine bodyPost_ret (v := .tuple #[.agg #[.bool true, .bool _, .int .i64 _, .int .i64 _, .slice (some ⟨b, 0, none⟩) 9 c9], .int .i64 _]) (by simp [results, Try.results14, go_sem, q0, q1, q2, q3, q4, hzq4] <;> first | rfl | ((repeat' apply And.intro) <;> rfl)) rfl (.inl ⟨rfl, _, ret_pr ?_ ?_ ?_ ?_, ?_, by go_grown⟩)
        · rw [E1.out]; simp [stepA]
        · rw [E2.out]; simp [stepR, hn.out]
        · rw [E3.out]; simp [stepF, hn.out, clamp]; try omega
        · rw [E4.out]; simp [stepW, hn.out]; try omega
        refine own_mono (base := w1.heap.size) ?_ (by omega)
        repeat refine ownsRow_setCell_other ?_ (by simp [Value.ownBlock]; omega) _
        exact HO4.out
    · rcases (by omega : 1250 ≤ F + 1 ∨ F + 1 < 1250) with kF | kF
      · go_upto_region 22 with fail
        have O4 := (((HP3.out.2.2).setR false).setW (1000)).setF (1250)
        have Q4 := (((HP3.out.2.1).far hq4 1 (.bool false)).far hq4 3 (.int .i64 (1000))).far hq4 2 (.int .i64 (1250))
        have HO4 := Lib.hid (ownsRow_setCell_other (a := ⟨w2.heap.size, 2, none⟩) ((ownsRow_setCell_other (a := ⟨w2.heap.size, 3, none⟩) ((ownsRow_setCell_other (a := ⟨w2.heap.size, 1, none⟩) (HO.out) hne4 (.bool false))) hne4 (.int .i64 (1000)))) hne4 (.int .i64 (1250)))
        have G4 := (((HP3.out.1).setCell (p := ⟨w2.heap.size, 1, none⟩) hle4 (.bool false)).setCell (p := ⟨w2.heap.size, 3, none⟩) hle4 (.int .i64 (1000))).setCell (p := ⟨w2.heap.size, 2, none⟩) hle4 (.int .i64 (1250))
        obtain ⟨w4, hw4⟩ : ∃ w4, w4 = (((w3.setCell ⟨w2.heap.size, 1, none⟩ (.bool false)).setCell ⟨w2.heap.size, 3, none⟩ (.int .i64 (1000))).setCell ⟨w2.heap.size, 2, none⟩ (.int .i64 (1250))) := ⟨_, rfl⟩
        simp only [← hw4] at O4 Q4 HO4 G4 ⊢
        clear hw4 HP3 HO o0 o1 o2 o3 o4 g0 g1 g2 g3 g4 q0 q1 q2 q3 q4 f0 f1 f2 f3 f4 p0 p1 p2 p3 p4
        obtain ⟨o0, o1, o2, o3, o4, _, _, _, _, _, _⟩ := O4
        obtain ⟨q0, q1, q2, q3, q4, f0, f1, f2, f3, f4, hzq4⟩ := Q4
        go_wp2_with fail
        refine bodyPost_ret (v := .tuple #[.agg #[.bool true, .bool _, .int .i64 _, .int .i64 _, .slice (some ⟨b, 0, none⟩) 9 c9], .int .i64 _]) (by simp [results, Try.results14, go_sem, q0, q1, q2, q3, q4, hzq4] <;> first | rfl | ((repeat' apply And.intro) <;> rfl)) rfl (.inl ⟨rfl, _, ret_pr ?_ ?_ ?_ ?_, ?_, by go_grown⟩)
        · rw [E1.out]; simp [stepA]
        · rw [E2.out]; simp [stepR, hn.out]
        · rw [E3.out]; simp [stepF, hn.out, clamp]; try omega
        · rw [E4.out]; simp [stepW, hn.out]; try omega
        refine own_mono (base := w1.heap.size) ?_ (by omega)
        repeat refine ownsRow_setCell_other ?_ (by simp [Value.ownBlock]; omega) _
        exact HO4.out
      · go_upto_region 22 with fail
        have O4 := (((HP3.out.2.2).setR false).setW (1000)).setF (F + 1)
        have Q4 := (((HP3.out.2.1).far hq4 1 (.bool false)).far hq4 3 (.int .i64 (1000))).far hq4 2 (.int .i64 (F + 1))
        have HO4 := Lib.hid (ownsRow_setCell_other (a := ⟨w2.heap.size, 2, none⟩) ((ownsRow_setCell_other (a := ⟨w2.heap.size, 3, none⟩) ((ownsRow_setCell_other (a := ⟨w2.heap.size, 1, none⟩) (HO.out) hne4 (.bool false))) hne4 (.int .i64 (1000)))) hne4 (.int .i64 (F + 1)))
        have G4 := (((HP3.out.1).setCell (p := ⟨w2.heap.size, 1, none⟩) hle4 (.bool false)).setCell (p := ⟨w2.heap.size, 3, none⟩) hle4 (.int .i64 (1000))).setCell (p := ⟨w2.heap.size, 2, none⟩) hle4 (.int .i64 (F + 1))
        obtain ⟨w4, hw4⟩ : ∃ w4, w4 = (((w3.setCell ⟨w2.heap.size, 1, none⟩ (.bool false)).setCell ⟨w2.heap.size, 3, none⟩ (.int .i64 (1000))).setCell ⟨w2.heap.size, 2, none⟩ (.int .i64 (F + 1))) := ⟨_, rfl⟩
        simp only [← hw4] at O4 Q4 HO4 G4 ⊢
        clear hw4 HP3 HO o0 o1 o2 o3 o4 g0 g1 g2 g3 g4 q0 q1 q2 q3 q4 f0 f1 f2 f3 f4 p0 p1 p2 p3 p4
        obtain ⟨o0, o1, o2, o3, o4, _, _, _, _, _, _⟩ := O4
        obtain ⟨q0, q1, q2, q3, q4, f0, f1, f2, f3, f4, hzq4⟩ := Q4
        go_wp2_with fail
        refine bodyPost_ret (v := .tuple #[.agg #[.bool true, .bool _, .int .i64 _, .int .i64 _, .slice (some ⟨b, 0, none⟩) 9 c9], .int .i64 _]) (by simp [results, Try.results14, go_sem, q0, q1, q2, q3, q4, hzq4] <;> first | rfl | ((repeat' apply And.intro) <;> rfl)) rfl (.inl ⟨rfl, _, ret_pr ?_ ?_ ?_ ?_, ?_, by go_grown⟩)
        · rw [E1.out]; simp [stepA]
        · rw [E2.out]; simp [stepR, hn.out]
        · rw [E3.out]; simp [stepF, hn.out, clamp]; try omega
        · rw [E4.out]; simp [stepW, hn.out]; try omega
        refine own_mono (base := w1.heap.size) ?_ (by omega)
        repeat refine ownsRow_setCell_other ?_ (by simp [Value.ownBlock]; omega) _
        exact HO4.out
    · rcases (by omega : 1250 ≤ F + 1 ∨ F + 1 < 1250) with kF | kF
      · go_upto_region 22 with fail
        have O4 := (((HP3.out.2.2).setR false).setW (W + 1)).setF (1250)
        have Q4 := (((HP3.out.2.1).far hq4 1 (.bool false)).far hq4 3 (.int .i64 (W + 1))).far hq4 2 (.int .i64 (1250))
        have HO4 := Lib.hid (ownsRow_setCell_other (a := ⟨w2.heap.size, 2, none⟩) ((ownsRow_setCell_other (a := ⟨w2.heap.size, 3, none⟩) ((ownsRow_setCell_other (a := ⟨w2.heap.size, 1, none⟩) (HO.out) hne4 (.bool false))) hne4 (.int .i64 (W + 1)))) hne4 (.int .i64 (1250)))
        have G4 := (((HP3.out.1).setCell (p := ⟨w2.heap.size, 1, none⟩) hle4 (.bool false)).setCell (p := ⟨w2.heap.size, 3, none⟩) hle4 (.int .i64 (W + 1))).setCell (p := ⟨w2.heap.size, 2, none⟩) hle4 (.int .i64 (1250))
        obtain ⟨w4, hw4⟩ : ∃ w4, w4 = (((w3.setCell ⟨w2.heap.size, 1, none⟩ (.bool false)).setCell ⟨w2.heap.size, 3, none⟩ (.int .i64 (W + 1))).setCell ⟨w2.heap.size, 2, none⟩ (.int .i64 (1250))) := ⟨_, rfl⟩
        simp only [← hw4] at O4 Q4 HO4 G4 ⊢
        clear hw4 HP3 HO o0 o1 o2 o3 o4 g0 g1 g2 g3 g4 q0 q1 q2 q3 q4 f0 f1 f2 f3 f4 p0 p1 p2 p3 p4
        obtain ⟨o0, o1, o2, o3, o4, _, _, _, _, _, _⟩ := O4
        obtain ⟨q0, q1, q2, q3, q4, f0, f1, f2, f3, f4, hzq4⟩ := Q4
        go_wp2_with fail
        refine bodyPost_ret (v := .tuple #[.agg #[.bool true, .bool _, .int .i64 _, .int .i64 _, .slice (some ⟨b, 0, none⟩) 9 c9], .int .i64 _]) (by simp [results, Try.results14, go_sem, q0, q1, q2, q3, q4, hzq4] <;> first | rfl | ((repeat' apply And.intro) <;> rfl)) rfl (.inl ⟨rfl, _, ret_pr ?_ ?_ ?_ ?_, ?_, by go_grown⟩)
        · rw [E1.out]; simp [stepA]
        · rw [E2.out]; simp [stepR, hn.out]
        · rw [E3.out]; simp [stepF, hn.out, clamp]; try omega
        · rw [E4.out]; simp [stepW, hn.out]; try omega
        refine own_mono (base := w1.heap.size) ?_ (by omega)
        repeat refine ownsRow_setCell_other ?_ (by simp [Value.ownBlock]; omega) _
        exact HO4.out
      · go_upto_region 22 with fail
        have O4 := (((HP3.out.2.2).setR false).setW (W + 1)).setF (F + 1)
        have Q4 := (((HP3.out.2.1).far hq4 1 (.bool false)).far hq4 3 (.int .i64 (W + 1))).far hq4 2 (.int .i64 (F + 1))
        have HO4 := Lib.hid (ownsRow_setCell_other (a := ⟨w2.heap.size, 2, none⟩) ((ownsRow_setCell_other (a := ⟨w2.heap.size, 3, none⟩) ((ownsRow_setCell_other (a := ⟨w2.heap.size, 1, none⟩) (HO.out) hne4 (.bool false))) hne4 (.int .i64 (W + 1)))) hne4 (.int .i64 (F + 1)))
        have G4 := (((HP3.out.1).setCell (p := ⟨w2.heap.size, 1, none⟩) hle4 (.bool false)).setCell (p := ⟨w2.heap.size, 3, none⟩) hle4 (.int .i64 (W + 1))).setCell (p := ⟨w2.heap.size, 2, none⟩) hle4 (.int .i64 (F + 1))
        obtain ⟨w4, hw4⟩ : ∃ w4, w4 = (((w3.setCell ⟨w2.heap.size, 1, none⟩ (.bool false)).setCell ⟨w2.heap.size, 3, none⟩ (.int .i64 (W + 1))).setCell ⟨w2.heap.size, 2, none⟩ (.int .i64 (F + 1))) := ⟨_, rfl⟩
        simp only [← hw4] at O4 Q4 HO4 G4 ⊢
        clear hw4 HP3 HO o0 o1 o2 o3 o4 g0 g1 g2 g3 g4 q0 q1 q2 q3 q4 f0 f1 f2 f3 f4 p0 p1 p2 p3 p4
        obtain ⟨o0, o1, o2, o3, o4, _, _, _, _, _, _⟩ := O4
        obtain ⟨q0, q1, q2, q3, q4, f0, f1, f2, f3, f4, hzq4⟩ := Q4
        go_wp2_with fail
        refine bodyPost_ret (v := .tuple #[.agg #[.bool true, .bool _, .int .i64 _, .int .i64 _, .slice (some ⟨b, 0, none⟩) 9 c9], .int .i64 _]) (by simp [results, Try.results14, go_sem, q0, q1, q2, q3, q4, hzq4] <;> first | rfl | ((repeat' apply And.intro) <;> rfl)) rfl (.inl ⟨rfl, _, ret_pr ?_ ?_ ?_ ?_, ?_, by go_grown⟩)
        · rw [E1.out]; simp [stepA]
        · rw [E2.out]; simp [stepR, hn.out]
        · rw [E3.out]; simp [stepF, hn.out, clamp]; try omega
        · rw [E4.out]; simp [stepW, hn.out]; try omega
        refine own_mono (base := w1.heap.size) ?_ (by omega)
        repeat refine ownsRow_setCell_other ?_ (by simp [Value.ownBlock]; omega) _
        exact HO4.out
  · have hn : Hid (nxR true mv = false) := by show nxR true mv = false; simp [nxR]; try omega
    rcases (by omega : 1250 ≤ F + 15 ∨ F + 15 < 1250) with kF | kF
    · go_upto_region 22 with fail
      have O4 := (((HP3.out.2.2).setR false).setW (0)).setF (1250)
      have Q4 := (((HP3.out.2.1).far hq4 1 (.bool false)).far hq4 3 (.int .i64 (0))).far hq4 2 (.int .i64 (1250))
      have HO4 := Lib.hid (ownsRow_setCell_other (a := ⟨w2.heap.size, 2, none⟩) ((ownsRow_setCell_other (a := ⟨w2.heap.size, 3, none⟩) ((ownsRow_setCell_other (a := ⟨w2.heap.size, 1, none⟩) (HO.out) hne4 (.bool false))) hne4 (.int .i64 (0)))) hne4 (.int .i64 (1250)))
      have G4 := (((HP3.out.1).setCell (p := ⟨w2.heap.size, 1, none⟩) hle4 (.bool false)).setCell (p := ⟨w2.heap.size, 3, none⟩) hle4 (.int .i64 (0))).setCell (p := ⟨w2.heap.size, 2, none⟩) hle4 (.int .i64 (1250))
      obtain ⟨w4, hw4⟩ : ∃ w4, w4 = (((w3.setCell ⟨w2.heap.size, 1, none⟩ (.bool false)).setCell ⟨w2.heap.size, 3, none⟩ (.int .i64 (0))).setCell ⟨w2.heap.size, 2, none⟩ (.int .i64 (1250))) := ⟨_, rfl⟩
      simp only [← hw4] at O4 Q4 HO4 G4 ⊢
      clear hw4 HP3 HO o0 o1 o2 o3 o4 g0 g1 g2 g3 g4 q0 q1 q2 q3 q4 f0 f1 f2 f3 f4 p0 p1 p2 p3 p4
      obtain ⟨o0, o1, o2, o3, o4, _, _, _, _, _, _⟩ := O4
      obtain ⟨q0, q1, q2, q3, q4, f0, f1, f2, f3, f4, hzq4⟩ := Q4
      go_wp2_with fail
      refine bodyPost_ret (v := .tuple #[.agg #[.bool true, .bool _, .int .i64 _, .int .i64 _, .slice (some ⟨b, 0, none⟩) 9 c9], .int .i64 _]) (by simp [results, Try.results14, go_sem, q0, q1, q2, q3, q4, hzq4] <;> first | rfl | ((repeat' apply And.intro) <;> rfl)) rfl (.inl ⟨rfl, _, ret_pr ?_ ?_ ?_ ?_, ?_, by go_grown⟩)
      · rw [E1.out]; simp [stepA]
      · rw [E2.out]; simp [stepR, hn.out]
      · rw [E3.out]; simp [stepF, hn.out, clamp]; try omega
      · rw [E4.out]; simp [stepW, hn.out]; try omega
      refine own_mono (base := w1.heap.size) ?_ (by omega)
      repeat refine ownsRow_setCell_other ?_ (by simp [Value.ownBlock]; omega) _
      exact HO4.out
    · go_upto_region 22 with fail
      have O4 := (((HP3.out.2.2).setR false).setW (0)).setF (F + 15)
      have Q4 := (((HP3.out.2.1).far hq4 1 (.bool false)).far hq4 3 (.int .i64 (0))).far hq4 2 (.int .i64 (F + 15))
      have HO4 := Lib.hid (ownsRow_setCell_other (a := ⟨w2.heap.size, 2, none⟩) ((ownsRow_setCell_other (a := ⟨w2.heap.size, 3, none⟩) ((ownsRow_setCell_other (a := ⟨w2.heap.size, 1, none⟩) (HO.out) hne4 (.bool false))) hne4 (.int .i64 (0)))) hne4 (.int .i64 (F + 15)))
      have G4 := (((HP3.out.1).setCell (p := ⟨w2.heap.size, 1, none⟩) hle4 (.bool false)).setCell (p := ⟨w2.heap.size, 3, none⟩) hle4 (.int .i64 (0))).setCell (p := ⟨w2.heap.size, 2, none⟩) hle4 (.int .i64 (F + 15))
      obtain ⟨w4, hw4⟩ : ∃ w4, w4 = (((w3.setCell ⟨w2.heap.size, 1, none⟩ (.bool false)).setCell ⟨w2.heap.size, 3, none⟩ (.int .i64 (0))).setCell ⟨w2.heap.size, 2, none⟩ (.int .i64 (F + 15))) := ⟨_, rfl⟩
      simp only [← hw4] at O4 Q4 HO4 G4 ⊢
      clear hw4 HP3 HO o0 o1 o2 o3 o4 g0 g1 g2 g3 g4 q0 q1 q2 q3 q4 f0 f1 f2 f3 f4 p0 p1 p2 p3 p4
      obtain ⟨o0, o1, o2, o3, o4, _, _, _, _, _, _⟩ := O4
      obtain ⟨q0, q1, q2, q3, q4, f0, f1, f2, f3, f4, hzq4⟩ := Q4
      go_wp2_with fail
      refine bodyPost_ret (v := .tuple #[.agg #[.bool true, .bool _, .int .i64 _, .int .i64 _, .slice (some ⟨b, 0, none⟩) 9 c9], .int .i64 _]) (by simp [results, Try.results14, go_sem, q0, q1, q2, q3, q4, hzq4] <;> first | rfl | ((repeat' apply And.intro) <;> rfl)) rfl (.inl ⟨rfl, _, ret_pr ?_ ?_ ?_ ?_, ?_, by go_grown⟩)
      · rw [E1.out]; simp [stepA]
      · rw [E2.out]; simp [stepR, hn.out]
      · rw [E3.out]; simp [stepF, hn.out, clamp]; try omega
      · rw [E4.out]; simp [stepW, hn.out]; try omega
      refine own_mono (base := w1.heap.size) ?_ (by omega)
      repeat refine ownsRow_setCell_other ?_ (by simp [Value.ownBlock]; omega) _
      exact HO4.out
theorem step14_ok (a r : Bool) (F W : Int) (A : Option Addr) (n cap : Nat) (f g : Nat → Int) (mv s c : Int) (w : World) (hs : Cls w A n f g) (hl : n ≤ 9223372036854775807) (h : okP a r F W n f g = true) (h2 : (pt s c && inB mv 0 20000) = true) : Calls Try.prog 14 #[.agg #[.bool a, .bool r, .int .i64 F, .int .i64 W, .slice A n cap], .int .i64 mv, .int .i64 s, .int .i64 c] w (StPost 0 (stepA a mv) (stepR a r mv) (stepF a r F mv) (stepW a r W mv) f g w) := by
  cases a
  · exact step14_idle r F W A n cap f g mv s c w hs hl h h2
  · rcases (by omega : 500 < mv ∨ (400 ≤ mv ∧ mv ≤ 500) ∨ mv < 400) with k | k | k
    · exact step14_hi r F W A n cap f g mv s c w hs hl h h2 k
    · exact step14_mid r F W A n cap f g mv s c w hs hl h h2 k
    · exact step14_lo r F W A n cap f g mv s c w hs hl h h2 k
theorem step14 (a r : Bool) (F W : Int) (A : Option Addr) (n cap : Nat) (f g : Nat → Int) (mv s c : Int) (w : World) (hs : Cls w A n f g) (hl : n ≤ 9223372036854775807) : Calls Try.prog 14 #[.agg #[.bool a, .bool r, .int .i64 F, .int .i64 W, .slice A n cap], .int .i64 mv, .int .i64 s, .int .i64 c] w (stepPost a r F W n f g mv s c w) := by
  unfold stepPost stepE
  cases h : okP a r F W n f g
  · exact (step14_arg a r F W A n cap f g mv s c w hs hl h).mono fun x w' k => by simp only [if_neg (show ¬ (false = true) by decide)]; exact k.any (by decide)
  · rw [if_pos rfl]
    cases h2 : (pt s c && inB mv 0 20000)
    · exact (step14_range a r F W A n cap f g mv s c w hs hl h h2).mono fun x w' k => by simp only [if_neg (show ¬ (false = true) by decide)]; exact k.any (by decide)
    · exact step14_ok a r F W A n cap f g mv s c w hs hl h h2
end Go.Proofs.Ytemfjikiopcgpaa
