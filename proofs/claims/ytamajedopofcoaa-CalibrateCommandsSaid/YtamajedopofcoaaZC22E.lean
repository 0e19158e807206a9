/-
  The contract of Command where its command refuses. No condition but the slices' shape.
-/
import Derived.Test.YtamajedopofcoaaZG
set_option linter.unusedVariables false
set_option linter.unusedSimpArgs false
namespace Go.Proofs.Ytamajedopofcoaa
open Go.RowKit
set_option maxRecDepth 100000 in
set_option maxHeartbeats 16000000 in
theorem c22_err (A : Option Addr) (n c : Nat) (A2 : Option Addr) (n2 c2 : Nat) (Ac Pe : Int) (A3 : Option Addr) (m c3 : Nat) (R W : List Int) (ch : List (Int × Int)) (A4 : Option Addr) (mm c4 : Nat) (l : List MV) (B : Option Addr) (nb c5 : Nat) (e : Int) (w : World) (hl : R.length = n) (hb : Ik .i64 w A R) (hc : n ≤ c) (hl2 : W.length = n2) (hb2 : Ik .i64 w A2 W) (hc2 : n2 ≤ c2) (hl3 : ch.length = m) (hb3 : Ik .i64 w A3 (flat ch)) (hc3 : m ≤ c3) (hs : n ≤ 5000) (hs2 : n2 ≤ 5000) (hs3 : m ≤ 5000) (hlm : l.length = mm) (hcv : Cv w A4 (flatM l)) (hmo : Mo [] w l) (hcm : mm ≤ c4) (hmm : mm ≤ 5000) (hsz : ∀ x ∈ l, x.m.Ce.length ≤ 5000) (hv : vP R W Ac Pe ch = true) (hm8 : (decide (mm ≤ 8) && !l.any bV) = true) (hnb : 0 < nb) (K41 : ∀ (X1 : Option Addr) (k1 : Nat) (X2 : Option Addr) (k2 : Nat) (X3 : Option Addr) (k3 : Nat) (A5 : Option Addr) (c6 : Nat) (l' : List MV) (G : Option Nat) (S : List Nat) (w1 : World), In41 R W ch (l.map MV.m) mm S X1 k1 X2 k2 X3 k3 A5 c6 l' G w w1 → Calls Try.prog 41 #[.agg #[.slice X1 R.length k1, .slice X2 W.length k2, .int .i64 Ac, .int .i64 Pe, .slice X3 ch.length k3], .slice A5 mm c6, .slice B nb c5] w1 (fun r w' => (∃ Y1 n1' j1 Y2 n2' j2 a1 a2 Y3 n3' j3 vm va, r = .returned (.tuple #[.agg #[.slice Y1 n1' j1, .slice Y2 n2' j2, .int .i64 a1, .int .i64 a2, .slice Y3 n3' j3], vm, va, .int .i64 e])) ∧ w1.grownBy w' G)) (he : e ≠ 0) (e0 : 0 ≤ e) (e1 : e ≤ 255) : Calls Try.prog 22 #[.agg #[.slice A n c, .slice A2 n2 c2, .int .i64 Ac, .int .i64 Pe, .slice A3 m c3], .slice A4 mm c4, .slice B nb c5] w (CP2 ⟨R, W, Ac, Pe, ch⟩ (l.map MV.m) [254, e] w) := by
  have dn : decide ((nb : Int) = 0) = false := by simp; omega
  have dm : ((nb : Int) == 0) = false := by simp; omega
  have KV := fun w h h2 h3 => valid11 A n c A2 n2 c2 Ac Pe A3 m c3 R W ch w hl h hc hl2 h2 hc2 hl3 h3 hc3 hs hs2 hs3
  rw [hv] at KV
  replace KV := Lib.hid KV
  have KC := fun w h h2 h3 => copy36 A n c A2 n2 c2 Ac Pe A3 m c3 R W ch w hl h hc hl2 h2 hc2 hl3 h3 hc3 hs hs2 hs3
  replace KC := Lib.hid KC
  have KY := fun w h h' => copy39 A4 mm c4 l w hlm h h' (by omega) hcm (fun x hx => by have := hsz x hx; omega)
  replace KY := Lib.hid KY
  have KM := fun w h h' => meas40 A4 mm c4 l w hlm h h' hcm
  rw [hm8] at KM
  replace KM := Lib.hid KM
  have HB1 := Lib.hid hb
  have HB2 := Lib.hid hb2
  have HB3 := Lib.hid hb3
  have HLM := Lib.hid hlm
  have HCV := Lib.hid hcv
  have HMO := Lib.hid hmo
  replace K41 := Lib.hid K41
  have e2 : (e != 0) = true := by simp [he]
  have e3 : decide (e = 0) = false := by simp [he]
  have e4 : (e == 0) = false := by simp [he]
  have e5 : IntKind.u8.wrap e = e := by simp [IntKind.wrap, IntKind.signed, IntKind.bits]; omega
  have HP0 := Lib.hid ((Cl.new (w := w) rfl [.slice A n c, .slice A2 n2 c2, .int .i64 Ac, .int .i64 Pe, .slice A3 m c3] 25).below ((Below.refl _ _).alloc (Nat.le_refl _) (.cells #[.slice none 0 0, .slice none 0 0, .int .i64 0, .int .i64 0, .slice none 0 0] 25)))
  have HQ0 := Lib.hid (Cl.new (P := w.heap.size + 1) (w := w.alloc (.cells #[.slice A n c, .slice A2 n2 c2, .int .i64 Ac, .int .i64 Pe, .slice A3 m c3] 25)) (by simp) [.slice none 0 0, .slice none 0 0, .int .i64 0, .int .i64 0, .slice none 0 0] 25)
  have HG0 := Lib.hid (show Below w.heap.size w ((w.alloc (.cells #[.slice A n c, .slice A2 n2 c2, .int .i64 Ac, .int .i64 Pe, .slice A3 m c3] 25)).alloc (.cells #[.slice none 0 0, .slice none 0 0, .int .i64 0, .int .i64 0, .slice none 0 0] 25)) by go_grown)
  clear hl hl2 hl3 hb hb2 hb3 hlm hcv hmo hv hm8 he
  go_enter Try.func22, Try.ntmps22
  go_wp2_with fail
  refine (KC.out _ (HB1.out.below HG0.out) (HB2.out.below HG0.out) (HB3.out.below HG0.out)).mono ?_
  rintro r w2 ⟨v1', v2', v3', b2, b3, rfl, hB2, hB3, hO1, _, hO2, _, hO3, hB3w, hbw2⟩
  obtain ⟨X1, k1, rfl, hk1, _, hi1, hf1, hu1⟩ := own_it hO1
  obtain ⟨X2, k2, rfl, hk2, _, hi2, hf2, hu2⟩ := own_it hO2
  obtain ⟨X3, k3, rfl, hk3, _, hi3, hf3, hu3⟩ := own_it hO3
  have HU0 := Lib.hid (show ((w.alloc (.cells #[.slice A n c, .slice A2 n2 c2, .int .i64 Ac, .int .i64 Pe, .slice A3 m c3] 25)).alloc (.cells #[.slice none 0 0, .slice none 0 0, .int .i64 0, .int .i64 0, .slice none 0 0] 25)).heap.size = w.heap.size + 2 by simp)
  have HF1 := Lib.hid (show ∀ b o, X1 = some ⟨b, o, none⟩ → w.heap.size + 2 ≤ b ∧ b < w2.heap.size from fun b o e => ⟨by have := hf1 b o e; have := HU0.out; omega, hu1 b o e⟩)
  have HF2 := Lib.hid (show ∀ b o, X2 = some ⟨b, o, none⟩ → w.heap.size + 2 ≤ b ∧ b < w2.heap.size from fun b o e => ⟨by have := hf2 b o e; have := HU0.out; omega, hu2 b o e⟩)
  have HF3 := Lib.hid (show ∀ b o, X3 = some ⟨b, o, none⟩ → w.heap.size + 2 ≤ b ∧ b < w2.heap.size from fun b o e => ⟨by have := hf3 b o e; have := HU0.out; omega, hu3 b o e⟩)
  have HI1 := Lib.hid hi1
  have HI2 := Lib.hid hi2
  have HI3 := Lib.hid hi3
  have HK := Lib.hid (And.intro hk1 (And.intro hk2 hk3))
  have hw2 : w.heap.size + 2 ≤ w2.heap.size := by have := hbw2.size; have := HU0.out; omega
  have HP2 := Lib.hid (HP0.out.below hbw2)
  have HQ2 := Lib.hid (HQ0.out.below hbw2)
  have HG2 := Lib.hid (chain HG0.out hbw2)
  clear hbw2 HP0 HQ0 HG0
  clear hO1 hO2 hO3 hi1 hi2 hi3 hf1 hf2 hf3 hu1 hu2 hu3 hB2 hB3 hB3w hk1 hk2 hk3 HU0
  go_wp2_with fail
  refine (KY.out _ (HCV.out.below HG2.out) (HMO.out.below HG2.out)).mono ?_
  rintro r w3 ⟨v, l', rfl, hms, ho, hmc, hbw3⟩
  obtain ⟨A5, c6, rfl, _, _, _⟩ := own_slice ho
  have hw3 : w2.heap.size ≤ w3.heap.size := hbw3.size
  have HMS := Lib.hid hms
  have HOW := Lib.hid ho
  have HMC := Lib.hid hmc
  have HW23 := Lib.hid hbw3
  have HP3 := Lib.hid (HP2.out.below hbw3)
  have HQ3 := Lib.hid (HQ2.out.below hbw3)
  have HG3 := Lib.hid (chain HG2.out hbw3)
  clear hbw3 HP2 HQ2 HG2
  clear hms ho hmc
  have hbw4 : Below w3.heap.size w3 (w3.alloc (.cells #[.slice X1 R.length k1, .slice X2 W.length k2, .int .i64 Ac, .int .i64 Pe, .slice X3 ch.length k3] 25)) := (Below.refl _ _).alloc (Nat.le_refl _) _
  have HS4 := Lib.hid (Cl.new (w := w3) rfl [.slice X1 R.length k1, .slice X2 W.length k2, .int .i64 Ac, .int .i64 Pe, .slice X3 ch.length k3] 25)
  have HP4 := Lib.hid (HP3.out.below hbw4)
  have HQ4 := Lib.hid (HQ3.out.below hbw4)
  have HG4 := Lib.hid (chain HG3.out hbw4)
  clear hbw4 HP3 HQ3 HG3
  have p0 := HP4.out.c 0 rfl
  have p1 := HP4.out.c 1 rfl
  have p2 := HP4.out.c 2 rfl
  have p3 := HP4.out.c 3 rfl
  have p4 := HP4.out.c 4 rfl
  have zp := HP4.out.1
  go_wp2_with fail
  refine (KV.out _ (HB1.out.below HG4.out) (HB2.out.below HG4.out) (HB3.out.below HG4.out)).mono ?_
  rintro r w5 ⟨rfl, hbw5⟩
  have HS5 := Lib.hid (HS4.out.below hbw5)
  have HW5 := Lib.hid (show Below w3.heap.size w3 w5 from ((Below.refl _ _).alloc (Nat.le_refl _) _).trans (hbw5.mono (by simp)))
  have HP5 := Lib.hid (HP4.out.below hbw5)
  have HQ5 := Lib.hid (HQ4.out.below hbw5)
  have HG5 := Lib.hid (chain HG4.out hbw5)
  clear hbw5 HP4 HQ4 HG4
  clear p0 p1 p2 p3 p4 zp KV HS4
  go_wp2_with fail
  refine (KM.out _ (HCV.out.below HG5.out) (HMO.out.below HG5.out)).mono ?_
  rintro r w6 ⟨rfl, hbw6⟩
  have HS6 := Lib.hid (HS5.out.below hbw6)
  have HW6 := Lib.hid (chain HW5.out hbw6)
  have HP6 := Lib.hid (HP5.out.below hbw6)
  have HQ6 := Lib.hid (HQ5.out.below hbw6)
  have HG6 := Lib.hid (chain HG5.out hbw6)
  clear hbw6 HP5 HQ5 HG5
  clear KM HS5 HW5
  obtain ⟨G, hG⟩ : ∃ G, G = (Value.slice A5 mm c6).ownBlock := ⟨_, rfl⟩
  have hg1 : ∀ g, G = some g → w2.heap.size ≤ g ∧ g < w3.heap.size := fun g e => by rw [hG] at e; exact ⟨own_ge HOW.out g e, own_lt HOW.out g e⟩
  have hin : In41 R W ch (l.map MV.m) mm [w3.heap.size, w.heap.size + 1] X1 k1 X2 k2 X3 k3 A5 c6 l' G w w6 := by
    have hb36 : Below w3.heap.size w3 w6 := HW6.out
    have hb26 : Below w2.heap.size w2 w6 := chain HW23.out hb36
    have fr : ∀ (A : Option Addr), (∀ b o, A = some ⟨b, o, none⟩ → w.heap.size + 2 ≤ b ∧ b < w2.heap.size) → ∀ b o, A = some ⟨b, o, none⟩ → b ∉ G.toList ++ [w3.heap.size, w.heap.size + 1] := fun A hA b o e hm => by
      have := hA b o e
      rcases mem_gs hm with h | h
      · have := hg1 b h.symm; omega
      · rcases two_mem h with h | h <;> omega
    refine ⟨HK.out, ⟨⟨HI1.out.below hb26, fun _ => fr _ HF1.out⟩, ⟨HI2.out.below hb26, fun _ => fr _ HF2.out⟩, ⟨HI3.out.below hb26, fun _ => fr _ HF3.out⟩⟩, HMS.out, ?_, ?_, ⟨w2.heap.size, by have := hb36.size; omega, own_below HOW.out hb36⟩, fun b o e => by rw [hG, e]; rfl, fun g e => ?_, fun s hs => ?_, HG6.out⟩
    · rw [← List.length_map (f := MV.m), HMS.out, List.length_map]; exact HLM.out
    · refine (HMC.out.mo _ (fun s hs => ?_)).below hb36
      rcases mem_gs hs with h | h
      · right; left; rw [h, hG]
      · rcases two_mem h with h | h
        · right; right; omega
        · left; omega
    · have := hg1 g e
      have := hb36.size
      refine ⟨by omega, fun h => ?_, by omega⟩
      rcases two_mem h with h | h <;> omega
    · have := hb36.size
      have := HS6.out.1
      rcases two_mem hs with h | h <;> omega
  have HIN := Lib.hid hin
  have HG1 := Lib.hid hg1
  clear hin hg1 hG HMS HMC HOW HI1 HI2 HI3 HF1 HF2 HF3 HK HW6 HW23
  have t0 := HS6.out.c 0 rfl
  have t1 := HS6.out.c 1 rfl
  have t2 := HS6.out.c 2 rfl
  have t3 := HS6.out.c 3 rfl
  have t4 := HS6.out.c 4 rfl
  have zt := HS6.out.1
  go_wp2_with fail
  refine (K41.out _ _ _ _ _ _ _ _ _ _ _ _ HIN.out).mono ?_
  rintro r w7 ⟨⟨Y1, n1', j1, Y2, n2', j2, a1, a2, Y3, n3', j3, vm, va, rfl⟩, hgb⟩
  have hgT : some w3.heap.size ≠ G := fun e => by have := HG1.out _ e.symm; omega
  have hgQ : some (w.heap.size + 1) ≠ G := fun e => by have := HG1.out _ e.symm; omega
  have hgP : some w.heap.size ≠ G := fun e => by have := HG1.out _ e.symm; omega
  have HP7 := Lib.hid (Cl.gb hgb HP6.out hgP)
  have HQ7 := Lib.hid (Cl.gb hgb HQ6.out hgQ)
  have HS7 := Lib.hid (Cl.gb hgb HS6.out hgT)
  have HG7 := Lib.hid (HG6.out.grown hgb HG6.out.size (fun g e => by have := HG1.out g e; omega))
  clear t0 t1 t2 t3 t4 zt hgT hgQ hgP hgb HP6 HQ6 HS6 HG6 HIN HG1 K41
  have t0 := HS7.out.c 0 rfl
  have t1 := HS7.out.c 1 rfl
  have t2 := HS7.out.c 2 rfl
  have t3 := HS7.out.c 3 rfl
  have t4 := HS7.out.c 4 rfl
  have g0 := HS7.out.f 0 rfl
  have g1 := HS7.out.f 1 rfl
  have g2 := HS7.out.f 2 rfl
  have g3 := HS7.out.f 3 rfl
  have g4 := HS7.out.f 4 rfl
  have zt := HS7.out.1
  go_upto_region 10 with fail
  obtain ⟨w8, hw8⟩ : ∃ wx, wx = ((((((w7).setCell ⟨w3.heap.size, 0, none⟩ (.slice Y1 n1' j1)).setCell ⟨w3.heap.size, 1, none⟩ (.slice Y2 n2' j2)).setCell ⟨w3.heap.size, 2, none⟩ (.int .i64 a1)).setCell ⟨w3.heap.size, 3, none⟩ (.int .i64 a2)).setCell ⟨w3.heap.size, 4, none⟩ (.slice Y3 n3' j3)) := ⟨_, rfl⟩
  have hTP : w3.heap.size ≠ w.heap.size := by omega
  have hTQ : w3.heap.size ≠ w.heap.size + 1 := by omega
  have HP8 := Lib.hid (show Cl w.heap.size w8 _ by rw [hw8]; exact HP7.out.far5 hTP _ _ _ _ _)
  have HQ8 := Lib.hid (show Cl (w.heap.size + 1) w8 _ by rw [hw8]; exact HQ7.out.far5 hTQ _ _ _ _ _)
  have HG8 := Lib.hid (show Below w.heap.size w w8 by rw [hw8]; exact below_set5 HG7.out (by omega) _ _ _ _ _)
  rw [← hw8]
  clear hw8 t0 t1 t2 t3 t4 g0 g1 g2 g3 g4 zt HP7 HQ7 HS7 HG7 hTP hTQ
  have p0 := HP8.out.c 0 rfl
  have p1 := HP8.out.c 1 rfl
  have p2 := HP8.out.c 2 rfl
  have p3 := HP8.out.c 3 rfl
  have p4 := HP8.out.c 4 rfl
  have zp := HP8.out.1
  go_wp2_with fail
  refine (KC.out _ (HB1.out.below HG8.out) (HB2.out.below HG8.out) (HB3.out.below HG8.out)).mono ?_
  rintro r wa ⟨v1', v2', v3', b2, b3, rfl, hB2, hB3, hO1, _, hO2, _, hO3, _, hbwa⟩
  obtain ⟨Y1, j1, rfl, hj1, _, hy1, hg1, _⟩ := own_it hO1
  obtain ⟨Y2, j2, rfl, hj2, _, hy2, hg2, _⟩ := own_it hO2
  obtain ⟨Y3, j3, rfl, hj3, _, hy3, hg3, _⟩ := own_it hO3
  have hzs := HQ8.out.1
  have HY1 := Lib.hid (And.intro hy1 (fr_le hg1 (C := w.heap.size + 2) (by omega)))
  have HY2 := Lib.hid (And.intro hy2 (fr_le hg2 (C := w.heap.size + 2) (by omega)))
  have HY3 := Lib.hid (And.intro hy3 (fr_le hg3 (C := w.heap.size + 2) (by omega)))
  have HJ := Lib.hid (And.intro hj1 (And.intro hj2 hj3))
  have HPA := Lib.hid (HP8.out.below hbwa)
  have HQA := Lib.hid (HQ8.out.below hbwa)
  have HGA := Lib.hid (chain HG8.out hbwa)
  clear hbwa HP8 HQ8 HG8
  clear p0 p1 p2 p3 p4 zp KC hO1 hO2 hO3 hy1 hy2 hy3 hg1 hg2 hg3 hB2 hB3 hj1 hj2 hj3 hzs
  go_wp2_with fail
  refine (KY.out _ (HCV.out.below HGA.out) (HMO.out.below HGA.out)).mono ?_
  rintro r wb ⟨v, ly, rfl, hmsy, hoy, hmcy, hbwb⟩
  obtain ⟨A6, c7, rfl, _, _, _⟩ := own_slice hoy
  have hzA := HQA.out.1
  have HLO := Lib.hid (show LO [w.heap.size + 1] wb A6 (l.map MV.m) c7 by
    rw [← hmsy]
    exact own_lo hoy (by rw [← List.length_map (f := MV.m), hmsy, List.length_map]; exact HLM.out) hmcy _ (fun s hs => by rw [List.mem_singleton] at hs; omega))
  have HY1B := Lib.hid (HY1.out.1.below hbwb)
  have HY2B := Lib.hid (HY2.out.1.below hbwb)
  have HY3B := Lib.hid (HY3.out.1.below hbwb)
  have HPB := Lib.hid (HPA.out.below hbwb)
  have HQB := Lib.hid (HQA.out.below hbwb)
  have HGB := Lib.hid (chain HGA.out hbwb)
  clear hbwb HPA HQA HGA
  clear hmsy hoy hmcy hzA KY
  have p0 := HPB.out.c 0 rfl
  have p1 := HPB.out.c 1 rfl
  have p2 := HPB.out.c 2 rfl
  have p3 := HPB.out.c 3 rfl
  have p4 := HPB.out.c 4 rfl
  have q0 := HQB.out.c 0 rfl
  have q1 := HQB.out.c 1 rfl
  have q2 := HQB.out.c 2 rfl
  have q3 := HQB.out.c 3 rfl
  have q4 := HQB.out.c 4 rfl
  have f0 := HQB.out.f 0 rfl
  have f1 := HQB.out.f 1 rfl
  have f2 := HQB.out.f 2 rfl
  have f3 := HQB.out.f 3 rfl
  have f4 := HQB.out.f 4 rfl
  have zp := HPB.out.1
  have zq := HQB.out.1
  go_wp2_with fail
  obtain ⟨u2, hu2⟩ : ∃ u, u = ((((((wb).setCell ⟨w.heap.size + 1, 0, none⟩ (.slice Y1 R.length j1)).setCell ⟨w.heap.size + 1, 1, none⟩ (.slice Y2 W.length j2)).setCell ⟨w.heap.size + 1, 2, none⟩ (.int .i64 Ac)).setCell ⟨w.heap.size + 1, 3, none⟩ (.int .i64 Pe)).setCell ⟨w.heap.size + 1, 4, none⟩ (.slice Y3 ch.length j3)) := ⟨_, rfl⟩
  have hB2 : Below w.heap.size w u2 := by rw [hu2]; exact below_set5 HGB.out (by omega) _ _ _ _ _
  have hu12 : wb.heap.size = u2.heap.size := by rw [hu2]; simp
  rw [← hu2]
  have al2 : Below u2.heap.size u2 (u2.alloc (.cells #[.int .u8 254, .int .u8 e] 5)) := (Below.refl _ _).alloc (Nat.le_refl _) _
  have hBF := chain hB2 al2
  have hEI : Ik .u8 (u2.alloc (.cells #[.int .u8 254, .int .u8 e] 5)) (some ⟨wb.heap.size, 0, none⟩) [254, e] := by rw [hu12]; exact Ik.of_block (k := .u8) (l := [254, e]) (new_at (W := u2) rfl (.cells #[.int .u8 254, .int .u8 e] 5))
  have HQ2 : Hid (Cl (w.heap.size + 1) (u2.alloc (.cells #[.int .u8 254, .int .u8 e] 5)) [.slice Y1 R.length j1, .slice Y2 W.length j2, .int .i64 Ac, .int .i64 Pe, .slice Y3 ch.length j3]) := Lib.hid (by rw [hu2]; exact (HQB.out.set5 _ _ _ _ _).below ((Below.refl _ _).alloc (Nat.le_refl _) _))
  have HZ1 : Hid (Ik .i64 u2 Y1 R) := Lib.hid (by rw [hu2]; exact HY1B.out.fr5 HY1.out.2 (by omega) _ _ _ _ _)
  have HZ2 : Hid (Ik .i64 u2 Y2 W) := Lib.hid (by rw [hu2]; exact HY2B.out.fr5 HY2.out.2 (by omega) _ _ _ _ _)
  have HZ3 : Hid (Ik .i64 u2 Y3 (flat ch)) := Lib.hid (by rw [hu2]; exact HY3B.out.fr5 HY3.out.2 (by omega) _ _ _ _ _)
  have HLO2 : Hid (LO [] u2 A6 (l.map MV.m) c7) := Lib.hid (by rw [hu2]; exact HLO.out.set5 (List.mem_singleton_self _) _ _ _ _ _)
  clear hu2
  refine bodyPost_ret (v := .tuple #[.agg #[.slice Y1 R.length j1, .slice Y2 W.length j2, .int .i64 Ac, .int .i64 Pe, .slice Y3 ch.length j3], .slice A6 mm c7, .slice (some ⟨wb.heap.size, 0, none⟩) 2 2]) (by simp [results, Try.results22, go_sem, HQ2.out.c 0 rfl, HQ2.out.c 1 rfl, HQ2.out.c 2 rfl, HQ2.out.c 3 rfl, HQ2.out.c 4 rfl] <;> first | rfl | ((repeat' apply And.intro) <;> rfl)) rfl ⟨Y1, j1, Y2, j2, Y3, j3, A6, c7, some ⟨wb.heap.size, 0, none⟩, 2, ?_, HJ.out, ⟨HZ1.out.below al2, HZ2.out.below al2, HZ3.out.below al2⟩, HLO2.out.below al2, hEI, by simp, hBF⟩
  rw [List.length_map, HLM.out]; rfl
end Go.Proofs.Ytamajedopofcoaa
