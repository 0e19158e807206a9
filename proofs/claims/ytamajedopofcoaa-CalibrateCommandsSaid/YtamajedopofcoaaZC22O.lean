/-
  The contract of Command where its command answers. No condition but the slices' shape.
-/
import Derived.Test.YtamajedopofcoaaZG
set_option linter.unusedVariables false
set_option linter.unusedSimpArgs false
namespace Go.Proofs.Ytamajedopofcoaa
open Go.RowKit
set_option maxRecDepth 100000 in
set_option maxHeartbeats 16000000 in
theorem c22_ok8 (A : Option Addr) (n c : Nat) (A2 : Option Addr) (n2 c2 : Nat) (Ac Pe : Int) (A3 : Option Addr) (m c3 : Nat) (R W : List Int) (ch : List (Int × Int)) (A4 : Option Addr) (mm c4 : Nat) (l : List MV) (B : Option Addr) (nb c5 : Nat) (q : PG) (ms : List MS) (an : List Int) (w : World) (hl : R.length = n) (hb : Ik .i64 w A R) (hc : n ≤ c) (hl2 : W.length = n2) (hb2 : Ik .i64 w A2 W) (hc2 : n2 ≤ c2) (hl3 : ch.length = m) (hb3 : Ik .i64 w A3 (flat ch)) (hc3 : m ≤ c3) (hs : n ≤ 5000) (hs2 : n2 ≤ 5000) (hs3 : m ≤ 5000) (hlm : l.length = mm) (hcv : Cv w A4 (flatM l)) (hmo : Mo [] w l) (hcm : mm ≤ c4) (hmm : mm ≤ 5000) (hsz : ∀ x ∈ l, x.m.Ce.length ≤ 5000) (hv : vP R W Ac Pe ch = true) (hm8 : (decide (mm ≤ 8) && !l.any bV) = true) (hnb : 0 < nb) (han : 0 < an.length) (hans : an.length ≤ 1000) (K41 : ∀ (X1 : Option Addr) (k1 : Nat) (X2 : Option Addr) (k2 : Nat) (X3 : Option Addr) (k3 : Nat) (A5 : Option Addr) (c6 : Nat) (l' : List MV) (G : Option Nat) (S : List Nat) (w1 : World), In41 R W ch (l.map MV.m) mm S X1 k1 X2 k2 X3 k3 A5 c6 l' G w w1 → Calls Try.prog 41 #[.agg #[.slice X1 R.length k1, .slice X2 W.length k2, .int .i64 Ac, .int .i64 Pe, .slice X3 ch.length k3], .slice A5 mm c6, .slice B nb c5] w1 (fun r w' => OQ q ms an S r w' ∧ w1.grownBy w' G)) : Calls Try.prog 22 #[.agg #[.slice A n c, .slice A2 n2 c2, .int .i64 Ac, .int .i64 Pe, .slice A3 m c3], .slice A4 mm c4, .slice B nb c5] w (CP2 q ms (255 :: an) w) := by
  have dn : decide ((nb : Int) = 0) = false := by simp; omega
  have dm : ((nb : Int) == 0) = false := by simp; omega
  obtain ⟨Rq, Wq, Acq, Peq, Chq⟩ := q
  have KV := fun w h h2 h3 => valid11 A n c A2 n2 c2 Ac Pe A3 m c3 R W ch w hl h hc hl2 h2 hc2 hl3 h3 hc3 hs hs2 hs3
  rw [hv] at KV
  replace KV := Lib.hid KV
  have KC := fun w h h2 h3 => copy36 A n c A2 n2 c2 Ac Pe A3 m c3 R W ch w hl h hc hl2 h2 hc2 hl3 h3 hc3 hs hs2 hs3
  replace KC := Lib.hid KC
  have KY := fun w h h' => copy39 A4 mm c4 l w hlm h h' (by omega) hcm (fun x hx => by have := hsz x hx; omega)
  replace KY := Lib.hid KY
  have KM := fun w h h' => meas40 A4 mm c4 l w hlm h h' hcm
  rw [hm8] at KM
  replace KM := Lib.hid KM
  have HB1 := Lib.hid hb
  have HB2 := Lib.hid hb2
  have HB3 := Lib.hid hb3
  have HLM := Lib.hid hlm
  have HCV := Lib.hid hcv
  have HMO := Lib.hid hmo
  replace K41 := Lib.hid K41
  have HP0 := Lib.hid ((Cl.new (w := w) rfl [.slice A n c, .slice A2 n2 c2, .int .i64 Ac, .int .i64 Pe, .slice A3 m c3] 25).below ((Below.refl _ _).alloc (Nat.le_refl _) (.cells #[.slice none 0 0, .slice none 0 0, .int .i64 0, .int .i64 0, .slice none 0 0] 25)))
  have HQ0 := Lib.hid (Cl.new (P := w.heap.size + 1) (w := w.alloc (.cells #[.slice A n c, .slice A2 n2 c2, .int .i64 Ac, .int .i64 Pe, .slice A3 m c3] 25)) (by simp) [.slice none 0 0, .slice none 0 0, .int .i64 0, .int .i64 0, .slice none 0 0] 25)
  have HG0 := Lib.hid (show Below w.heap.size w ((w.alloc (.cells #[.slice A n c, .slice A2 n2 c2, .int .i64 Ac, .int .i64 Pe, .slice A3 m c3] 25)).alloc (.cells #[.slice none 0 0, .slice none 0 0, .int .i64 0, .int .i64 0, .slice none 0 0] 25)) by go_grown)
  clear hl hl2 hl3 hb hb2 hb3 hlm hcv hmo hv hm8
  go_enter Try.func22, Try.ntmps22
  go_wp2_with fail
  refine (KC.out _ (HB1.out.below HG0.out) (HB2.out.below HG0.out) (HB3.out.below HG0.out)).mono ?_
  rintro r w2 ⟨v1', v2', v3', b2, b3, rfl, hB2, hB3, hO1, _, hO2, _, hO3, hB3w, hbw2⟩
  obtain ⟨X1, k1, rfl, hk1, _, hi1, hf1, hu1⟩ := own_it hO1
  obtain ⟨X2, k2, rfl, hk2, _, hi2, hf2, hu2⟩ := own_it hO2
  obtain ⟨X3, k3, rfl, hk3, _, hi3, hf3, hu3⟩ := own_it hO3
  have HU0 := Lib.hid (show ((w.alloc (.cells #[.slice A n c, .slice A2 n2 c2, .int .i64 Ac, .int .i64 Pe, .slice A3 m c3] 25)).alloc (.cells #[.slice none 0 0, .slice none 0 0, .int .i64 0, .int .i64 0, .slice none 0 0] 25)).heap.size = w.heap.size + 2 by simp)
  have HF1 := Lib.hid (show ∀ b o, X1 = some ⟨b, o, none⟩ → w.heap.size + 2 ≤ b ∧ b < w2.heap.size from fun b o e => ⟨by have := hf1 b o e; have := HU0.out; omega, hu1 b o e⟩)
  have HF2 := Lib.hid (show ∀ b o, X2 = some ⟨b, o, none⟩ → w.heap.size + 2 ≤ b ∧ b < w2.heap.size from fun b o e => ⟨by have := hf2 b o e; have := HU0.out; omega, hu2 b o e⟩)
  have HF3 := Lib.hid (show ∀ b o, X3 = some ⟨b, o, none⟩ → w.heap.size + 2 ≤ b ∧ b < w2.heap.size from fun b o e => ⟨by have := hf3 b o e; have := HU0.out; omega, hu3 b o e⟩)
  have HI1 := Lib.hid hi1
  have HI2 := Lib.hid hi2
  have HI3 := Lib.hid hi3
  have HK := Lib.hid (And.intro hk1 (And.intro hk2 hk3))
  have hw2 : w.heap.size + 2 ≤ w2.heap.size := by have := hbw2.size; have := HU0.out; omega
  have HP2 := Lib.hid (HP0.out.below hbw2)
  have HQ2 := Lib.hid (HQ0.out.below hbw2)
  have HG2 := Lib.hid (chain HG0.out hbw2)
  clear hbw2 HP0 HQ0 HG0
  clear hO1 hO2 hO3 hi1 hi2 hi3 hf1 hf2 hf3 hu1 hu2 hu3 hB2 hB3 hB3w hk1 hk2 hk3 HU0
  go_wp2_with fail
  refine (KY.out _ (HCV.out.below HG2.out) (HMO.out.below HG2.out)).mono ?_
  rintro r w3 ⟨v, l', rfl, hms, ho, hmc, hbw3⟩
  obtain ⟨A5, c6, rfl, _, _, _⟩ := own_slice ho
  have hw3 : w2.heap.size ≤ w3.heap.size := hbw3.size
  have HMS := Lib.hid hms
  have HOW := Lib.hid ho
  have HMC := Lib.hid hmc
  have HW23 := Lib.hid hbw3
  have HP3 := Lib.hid (HP2.out.below hbw3)
  have HQ3 := Lib.hid (HQ2.out.below hbw3)
  have HG3 := Lib.hid (chain HG2.out hbw3)
  clear hbw3 HP2 HQ2 HG2
  clear hms ho hmc
  have hbw4 : Below w3.heap.size w3 (w3.alloc (.cells #[.slice X1 R.length k1, .slice X2 W.length k2, .int .i64 Ac, .int .i64 Pe, .slice X3 ch.length k3] 25)) := (Below.refl _ _).alloc (Nat.le_refl _) _
  have HS4 := Lib.hid (Cl.new (w := w3) rfl [.slice X1 R.length k1, .slice X2 W.length k2, .int .i64 Ac, .int .i64 Pe, .slice X3 ch.length k3] 25)
  have HP4 := Lib.hid (HP3.out.below hbw4)
  have HQ4 := Lib.hid (HQ3.out.below hbw4)
  have HG4 := Lib.hid (chain HG3.out hbw4)
  clear hbw4 HP3 HQ3 HG3
  have p0 := HP4.out.c 0 rfl
  have p1 := HP4.out.c 1 rfl
  have p2 := HP4.out.c 2 rfl
  have p3 := HP4.out.c 3 rfl
  have p4 := HP4.out.c 4 rfl
  have zp := HP4.out.1
  go_wp2_with fail
  refine (KV.out _ (HB1.out.below HG4.out) (HB2.out.below HG4.out) (HB3.out.below HG4.out)).mono ?_
  rintro r w5 ⟨rfl, hbw5⟩
  have HS5 := Lib.hid (HS4.out.below hbw5)
  have HW5 := Lib.hid (show Below w3.heap.size w3 w5 from ((Below.refl _ _).alloc (Nat.le_refl _) _).trans (hbw5.mono (by simp)))
  have HP5 := Lib.hid (HP4.out.below hbw5)
  have HQ5 := Lib.hid (HQ4.out.below hbw5)
  have HG5 := Lib.hid (chain HG4.out hbw5)
  clear hbw5 HP4 HQ4 HG4
  clear p0 p1 p2 p3 p4 zp KV HS4
  go_wp2_with fail
  refine (KM.out _ (HCV.out.below HG5.out) (HMO.out.below HG5.out)).mono ?_
  rintro r w6 ⟨rfl, hbw6⟩
  have HS6 := Lib.hid (HS5.out.below hbw6)
  have HW6 := Lib.hid (chain HW5.out hbw6)
  have HP6 := Lib.hid (HP5.out.below hbw6)
  have HQ6 := Lib.hid (HQ5.out.below hbw6)
  have HG6 := Lib.hid (chain HG5.out hbw6)
  clear hbw6 HP5 HQ5 HG5
  clear KM HS5 HW5
  obtain ⟨G, hG⟩ : ∃ G, G = (Value.slice A5 mm c6).ownBlock := ⟨_, rfl⟩
  have hg1 : ∀ g, G = some g → w2.heap.size ≤ g ∧ g < w3.heap.size := fun g e => by rw [hG] at e; exact ⟨own_ge HOW.out g e, own_lt HOW.out g e⟩
  have hin : In41 R W ch (l.map MV.m) mm [w3.heap.size, w.heap.size + 1] X1 k1 X2 k2 X3 k3 A5 c6 l' G w w6 := by
    have hb36 : Below w3.heap.size w3 w6 := HW6.out
    have hb26 : Below w2.heap.size w2 w6 := chain HW23.out hb36
    have fr : ∀ (A : Option Addr), (∀ b o, A = some ⟨b, o, none⟩ → w.heap.size + 2 ≤ b ∧ b < w2.heap.size) → ∀ b o, A = some ⟨b, o, none⟩ → b ∉ G.toList ++ [w3.heap.size, w.heap.size + 1] := fun A hA b o e hm => by
      have := hA b o e
      rcases mem_gs hm with h | h
      · have := hg1 b h.symm; omega
      · rcases two_mem h with h | h <;> omega
    refine ⟨HK.out, ⟨⟨HI1.out.below hb26, fun _ => fr _ HF1.out⟩, ⟨HI2.out.below hb26, fun _ => fr _ HF2.out⟩, ⟨HI3.out.below hb26, fun _ => fr _ HF3.out⟩⟩, HMS.out, ?_, ?_, ⟨w2.heap.size, by have := hb36.size; omega, own_below HOW.out hb36⟩, fun b o e => by rw [hG, e]; rfl, fun g e => ?_, fun s hs => ?_, HG6.out⟩
    · rw [← List.length_map (f := MV.m), HMS.out, List.length_map]; exact HLM.out
    · refine (HMC.out.mo _ (fun s hs => ?_)).below hb36
      rcases mem_gs hs with h | h
      · right; left; rw [h, hG]
      · rcases two_mem h with h | h
        · right; right; omega
        · left; omega
    · have := hg1 g e
      have := hb36.size
      refine ⟨by omega, fun h => ?_, by omega⟩
      rcases two_mem h with h | h <;> omega
    · have := hb36.size
      have := HS6.out.1
      rcases two_mem hs with h | h <;> omega
  have HIN := Lib.hid hin
  have HG1 := Lib.hid hg1
  clear hin hg1 hG HMS HMC HOW HI1 HI2 HI3 HF1 HF2 HF3 HK HW6 HW23
  have t0 := HS6.out.c 0 rfl
  have t1 := HS6.out.c 1 rfl
  have t2 := HS6.out.c 2 rfl
  have t3 := HS6.out.c 3 rfl
  have t4 := HS6.out.c 4 rfl
  have zt := HS6.out.1
  go_wp2_with fail
  refine (K41.out _ _ _ _ _ _ _ _ _ _ _ _ HIN.out).mono ?_
  rintro r w7 ⟨⟨Z1, j1, Z2, j2, Z3, j3, A7, c7, Bq, cq, rfl, hlen, hI, hLO, hIB, hcq, hBn⟩, hgb⟩
  obtain ⟨b7, o7, rfl, hb7l⟩ := hIB.1.addr han
  clear hBn
  have hgT : some w3.heap.size ≠ G := fun e => by have := HG1.out _ e.symm; omega
  have hgQ : some (w.heap.size + 1) ≠ G := fun e => by have := HG1.out _ e.symm; omega
  have hgP : some w.heap.size ≠ G := fun e => by have := HG1.out _ e.symm; omega
  have HP7 := Lib.hid (Cl.gb hgb HP6.out hgP)
  have HQ7 := Lib.hid (Cl.gb hgb HQ6.out hgQ)
  have HS7 := Lib.hid (Cl.gb hgb HS6.out hgT)
  have HG7 := Lib.hid (HG6.out.grown hgb HG6.out.size (fun g e => by have := HG1.out g e; omega))
  clear t0 t1 t2 t3 t4 zt hgT hgQ hgP hgb HP6 HQ6 HS6 HG6 HIN HG1 K41
  have t0 := HS7.out.c 0 rfl
  have t1 := HS7.out.c 1 rfl
  have t2 := HS7.out.c 2 rfl
  have t3 := HS7.out.c 3 rfl
  have t4 := HS7.out.c 4 rfl
  have g0 := HS7.out.f 0 rfl
  have g1 := HS7.out.f 1 rfl
  have g2 := HS7.out.f 2 rfl
  have g3 := HS7.out.f 3 rfl
  have g4 := HS7.out.f 4 rfl
  have zt := HS7.out.1
  have HI7 := Lib.hid hI
  have HLO7 := Lib.hid hLO
  have HIB7 := Lib.hid hIB
  clear hI hLO hIB
  go_upto_region 11 with fail
  obtain ⟨w8, hw8⟩ : ∃ wx, wx = ((((((w7).setCell ⟨w3.heap.size, 0, none⟩ (.slice Z1 Rq.length j1)).setCell ⟨w3.heap.size, 1, none⟩ (.slice Z2 Wq.length j2)).setCell ⟨w3.heap.size, 2, none⟩ (.int .i64 Acq)).setCell ⟨w3.heap.size, 3, none⟩ (.int .i64 Peq)).setCell ⟨w3.heap.size, 4, none⟩ (.slice Z3 Chq.length j3)) := ⟨_, rfl⟩
  have hTQ : w3.heap.size ≠ w.heap.size + 1 := by omega
  have hMt : w3.heap.size ∈ [w3.heap.size, w.heap.size + 1] := List.mem_cons_self
  have hMe : w.heap.size + 1 ∈ [w3.heap.size, w.heap.size + 1] := List.mem_cons_of_mem _ List.mem_cons_self
  have HT1 := Lib.hid (show Cl w3.heap.size w8 [.slice Z1 Rq.length j1, .slice Z2 Wq.length j2, .int .i64 Acq, .int .i64 Peq, .slice Z3 Chq.length j3] by rw [hw8]; exact HS7.out.set5 _ _ _ _ _)
  have HQ1 := Lib.hid (show Cl (w.heap.size + 1) w8 [.slice none 0 0, .slice none 0 0, .int .i64 0, .int .i64 0, .slice none 0 0] by rw [hw8]; exact HQ7.out.far5 hTQ _ _ _ _ _)
  have HG1 := Lib.hid (show Below w.heap.size w w8 by rw [hw8]; exact below_set5 HG7.out (by omega) _ _ _ _ _)
  have HI := Lib.hid (show Iy [w3.heap.size, w.heap.size + 1] .i64 w8 Z1 Rq ∧ Iy [w3.heap.size, w.heap.size + 1] .i64 w8 Z2 Wq ∧ Iy [w3.heap.size, w.heap.size + 1] .i64 w8 Z3 (flat Chq) by rw [hw8]; exact ⟨HI7.out.1.set5 hMt _ _ _ _ _, HI7.out.2.1.set5 hMt _ _ _ _ _, HI7.out.2.2.set5 hMt _ _ _ _ _⟩)
  have HLO := Lib.hid (show LO [w3.heap.size, w.heap.size + 1] w8 A7 ms c7 by rw [hw8]; exact HLO7.out.keep5 hMt _ _ _ _ _)
  have HIB := Lib.hid (show Iy [w3.heap.size, w.heap.size + 1] .u8 w8 _ _ by rw [hw8]; exact HIB7.out.set5 hMt _ _ _ _ _)
  rw [← hw8]
  clear hw8 t0 t1 t2 t3 t4 g0 g1 g2 g3 g4 zt HP7 HQ7 HS7 HG7 HI7 HLO7 HIB7 hTQ hMt KC KY HB1 HB2 HB3 HLM HCV HMO
  have t0 := HT1.out.c 0 rfl
  have t1 := HT1.out.c 1 rfl
  have t2 := HT1.out.c 2 rfl
  have t3 := HT1.out.c 3 rfl
  have t4 := HT1.out.c 4 rfl
  have zt := HT1.out.1
  refine region_K (fun W' => (∀ b o, b < w8.heap.size → W'.cell? ⟨b, o, none⟩ = w8.cell? ⟨b, o, none⟩) ∧ Below w8.heap.size w8 W') 5 (by kernel_rfl) (Kp.mk (Below.refl _ _).drew) (fun hHeld => ?_)
  refine K_take' (i := 1) (v := ?_) rfl (by kernel_rfl) (by kernel_rfl) (by kernel_rfl) (by kernel_rfl) (fun _ _ _ h => h) (Or.inl ⟨by kernel_rfl, ?_⟩) hHeld ?_
  rotate_left 1
  · intro W8 hSw
    clear hSw
    go_simp
    all_goals with_reducible rfl
  try simp only [Act.put, List.setIfInBounds_toArray, List.set_cons_zero, List.set_cons_succ]
  refine K_take' (i := 3) (v := ?_) rfl (by kernel_rfl) (by kernel_rfl) (by kernel_rfl) (by kernel_rfl) (fun _ _ _ h => h) (Or.inl ⟨by kernel_rfl, ?_⟩) hHeld ?_
  rotate_left 1
  · intro W8 hSw
    clear hSw
    go_simp
    all_goals with_reducible rfl
  try simp only [Act.put, List.setIfInBounds_toArray, List.set_cons_zero, List.set_cons_succ]
  refine K_take (i := 0) (v := ?_) rfl (by kernel_rfl) (by kernel_rfl) (by kernel_rfl) (by kernel_rfl) (by kernel_rfl) (fun _ _ _ h => h) (Or.inl ⟨by kernel_rfl, ?_⟩) hHeld ?_
  rotate_left 1
  · intro W8 hSw
    (try dsimp only at hSw)
    go_simp
    all_goals with_reducible rfl
  try simp only [Act.put, List.setIfInBounds_toArray, List.set_cons_zero, List.set_cons_succ]
  refine K_step' (i := 2) (by kernel_rfl) rfl (fun K hK => ?_)
  go_simp
  refine hK.out _ _ (Kp.mk (show Below w8.heap.size w8 _ from ((Below.refl _ _).alloc (Nat.le_refl _) _).drew)) (fun hH2 => ?_)
  clear hK K
  try simp only [Act.put, List.setIfInBounds_toArray, List.set_cons_zero, List.set_cons_succ]
  have hownA := (World.ownsRow_lit w8 (base := w8.heap.size) (e := 5) (size := 1) #[.int .u8 255] 1 (Nat.le_refl _) (by simp [maxLen]) rfl).drew
  have hbW : Below w8.heap.size w8 (w8.alloc (.cells #[.int .u8 255] 5)).drew := ((Below.refl _ _).alloc (Nat.le_refl _) _).drew
  refine K_step' (i := 4) (by kernel_rfl) rfl (fun K hK => ?_)
  refine step_bt (by rfl) (.tmp 50) (.tmp 51) (by rfl) w8.heap.size 1 _ [255] (by simp [Act.eval, Act.put] <;> rfl) hownA b7 o7 an.length cq an (by simp [Act.eval, Act.put] <;> rfl) rfl (HIB.out.1.below hbW) han (by omega) (by simp) (1 + an.length) rfl ?_
  intro g9 c9 w9 hg9 hgl9 hc9 hi9 hb9
  have hKp9 := Kp.mk (hbW.trans hb9)
  refine hK.out _ _ hKp9 (fun hH4 => ?_)
  clear hK K hH4
  try simp only [Act.put, List.setIfInBounds_toArray, List.set_cons_zero, List.set_cons_succ]
  have HQ9 := Lib.hid (HQ1.out.below hKp9.2)
  have HB9 := Lib.hid hKp9.2
  clear hKp9 hH2 hHeld t0 t1 t2 t3 t4 zt
  have q0 := HQ9.out.c 0 rfl
  have q1 := HQ9.out.c 1 rfl
  have q2 := HQ9.out.c 2 rfl
  have q3 := HQ9.out.c 3 rfl
  have q4 := HQ9.out.c 4 rfl
  have f0 := HQ9.out.f 0 rfl
  have f1 := HQ9.out.f 1 rfl
  have f2 := HQ9.out.f 2 rfl
  have f3 := HQ9.out.f 3 rfl
  have f4 := HQ9.out.f 4 rfl
  have zq := HQ9.out.1
  refine K_step (by kernel_rfl) (by kernel_rfl) rfl (fun K hK => ?_)
  go_simp
  refine hK.out _ _ ?_
  clear hK K
  try simp only [Act.put, List.setIfInBounds_toArray, List.set_cons_zero, List.set_cons_succ]
  refine wpAny_ready (rs := [6]) (by kernel_rfl) (by simp) (AllReady.cons rfl (fun K hK => ?_) AllReady.nil)
  go_simp
  refine hK _ _ ?_
  clear hK K
  try simp only [Act.put, List.setIfInBounds_toArray, List.set_cons_zero, List.set_cons_succ]
  refine wpAny_ready (rs := [7]) (by kernel_rfl) (by simp) (AllReady.cons rfl (fun K hK => ?_) AllReady.nil)
  go_simp
  refine hK _ _ ?_
  clear hK K
  try simp only [Act.put, List.setIfInBounds_toArray, List.set_cons_zero, List.set_cons_succ]
  refine wpAny_done (by kernel_rfl) ?_ _
  have HG9 := Lib.hid (chain HG1.out HB9.out)
  have HI9 := Lib.hid hi9
  have hg9' : w.heap.size + 1 < g9 := by have := HQ1.out.1; omega
  clear hi9 hb9 hownA hbW HQ1 HG1 HT1
  go_wp2_with fail
  refine bodyPost_ret (v := .tuple #[.agg #[.slice Z1 Rq.length j1, .slice Z2 Wq.length j2, .int .i64 Acq, .int .i64 Peq, .slice Z3 Chq.length j3], .slice A7 ms.length c7, .slice (some ⟨g9, 0, none⟩) (1 + an.length) c9]) (by simp [results, Try.results22, go_sem, q0, f0, q1, f1, q2, f2, q3, f3, q4, f4, zq] <;> first | rfl | ((repeat' apply And.intro) <;> rfl)) rfl ⟨Z1, j1, Z2, j2, Z3, j3, A7, c7, some ⟨g9, 0, none⟩, c9, by rw [List.length_cons, Nat.add_comm], hlen, ⟨((HI.out.1.below HB9.out).set5 hMe _ _ _ _ _).1, ((HI.out.2.1.below HB9.out).set5 hMe _ _ _ _ _).1, ((HI.out.2.2.below HB9.out).set5 hMe _ _ _ _ _).1⟩, (HLO.out.below HB9.out).set5 hMe _ _ _ _ _, HI9.out.fr5 (fr_at (Nat.le_refl g9)) hg9' _ _ _ _ _, by rw [List.length_cons]; omega, below_set5 HG9.out (by omega) _ _ _ _ _⟩
set_option maxRecDepth 100000 in
set_option maxHeartbeats 16000000 in
theorem c22_ok0 (A : Option Addr) (n c : Nat) (A2 : Option Addr) (n2 c2 : Nat) (Ac Pe : Int) (A3 : Option Addr) (m c3 : Nat) (R W : List Int) (ch : List (Int × Int)) (A4 : Option Addr) (mm c4 : Nat) (l : List MV) (B : Option Addr) (nb c5 : Nat) (q : PG) (ms : List MS) (an : List Int) (w : World) (hl : R.length = n) (hb : Ik .i64 w A R) (hc : n ≤ c) (hl2 : W.length = n2) (hb2 : Ik .i64 w A2 W) (hc2 : n2 ≤ c2) (hl3 : ch.length = m) (hb3 : Ik .i64 w A3 (flat ch)) (hc3 : m ≤ c3) (hs : n ≤ 5000) (hs2 : n2 ≤ 5000) (hs3 : m ≤ 5000) (hlm : l.length = mm) (hcv : Cv w A4 (flatM l)) (hmo : Mo [] w l) (hcm : mm ≤ c4) (hmm : mm ≤ 5000) (hsz : ∀ x ∈ l, x.m.Ce.length ≤ 5000) (hv : vP R W Ac Pe ch = true) (hm8 : (decide (mm ≤ 8) && !l.any bV) = true) (hnb : 0 < nb) (han : an = []) (K41 : ∀ (X1 : Option Addr) (k1 : Nat) (X2 : Option Addr) (k2 : Nat) (X3 : Option Addr) (k3 : Nat) (A5 : Option Addr) (c6 : Nat) (l' : List MV) (G : Option Nat) (S : List Nat) (w1 : World), In41 R W ch (l.map MV.m) mm S X1 k1 X2 k2 X3 k3 A5 c6 l' G w w1 → Calls Try.prog 41 #[.agg #[.slice X1 R.length k1, .slice X2 W.length k2, .int .i64 Ac, .int .i64 Pe, .slice X3 ch.length k3], .slice A5 mm c6, .slice B nb c5] w1 (fun r w' => OQ q ms an S r w' ∧ w1.grownBy w' G)) : Calls Try.prog 22 #[.agg #[.slice A n c, .slice A2 n2 c2, .int .i64 Ac, .int .i64 Pe, .slice A3 m c3], .slice A4 mm c4, .slice B nb c5] w (CP2 q ms (255 :: an) w) := by
  have dn : decide ((nb : Int) = 0) = false := by simp; omega
  have dm : ((nb : Int) == 0) = false := by simp; omega
  obtain ⟨Rq, Wq, Acq, Peq, Chq⟩ := q
  have KV := fun w h h2 h3 => valid11 A n c A2 n2 c2 Ac Pe A3 m c3 R W ch w hl h hc hl2 h2 hc2 hl3 h3 hc3 hs hs2 hs3
  rw [hv] at KV
  replace KV := Lib.hid KV
  have KC := fun w h h2 h3 => copy36 A n c A2 n2 c2 Ac Pe A3 m c3 R W ch w hl h hc hl2 h2 hc2 hl3 h3 hc3 hs hs2 hs3
  replace KC := Lib.hid KC
  have KY := fun w h h' => copy39 A4 mm c4 l w hlm h h' (by omega) hcm (fun x hx => by have := hsz x hx; omega)
  replace KY := Lib.hid KY
  have KM := fun w h h' => meas40 A4 mm c4 l w hlm h h' hcm
  rw [hm8] at KM
  replace KM := Lib.hid KM
  have HB1 := Lib.hid hb
  have HB2 := Lib.hid hb2
  have HB3 := Lib.hid hb3
  have HLM := Lib.hid hlm
  have HCV := Lib.hid hcv
  have HMO := Lib.hid hmo
  replace K41 := Lib.hid K41
  have HP0 := Lib.hid ((Cl.new (w := w) rfl [.slice A n c, .slice A2 n2 c2, .int .i64 Ac, .int .i64 Pe, .slice A3 m c3] 25).below ((Below.refl _ _).alloc (Nat.le_refl _) (.cells #[.slice none 0 0, .slice none 0 0, .int .i64 0, .int .i64 0, .slice none 0 0] 25)))
  have HQ0 := Lib.hid (Cl.new (P := w.heap.size + 1) (w := w.alloc (.cells #[.slice A n c, .slice A2 n2 c2, .int .i64 Ac, .int .i64 Pe, .slice A3 m c3] 25)) (by simp) [.slice none 0 0, .slice none 0 0, .int .i64 0, .int .i64 0, .slice none 0 0] 25)
  have HG0 := Lib.hid (show Below w.heap.size w ((w.alloc (.cells #[.slice A n c, .slice A2 n2 c2, .int .i64 Ac, .int .i64 Pe, .slice A3 m c3] 25)).alloc (.cells #[.slice none 0 0, .slice none 0 0, .int .i64 0, .int .i64 0, .slice none 0 0] 25)) by go_grown)
  clear hl hl2 hl3 hb hb2 hb3 hlm hcv hmo hv hm8
  go_enter Try.func22, Try.ntmps22
  go_wp2_with fail
  refine (KC.out _ (HB1.out.below HG0.out) (HB2.out.below HG0.out) (HB3.out.below HG0.out)).mono ?_
  rintro r w2 ⟨v1', v2', v3', b2, b3, rfl, hB2, hB3, hO1, _, hO2, _, hO3, hB3w, hbw2⟩
  obtain ⟨X1, k1, rfl, hk1, _, hi1, hf1, hu1⟩ := own_it hO1
  obtain ⟨X2, k2, rfl, hk2, _, hi2, hf2, hu2⟩ := own_it hO2
  obtain ⟨X3, k3, rfl, hk3, _, hi3, hf3, hu3⟩ := own_it hO3
  have HU0 := Lib.hid (show ((w.alloc (.cells #[.slice A n c, .slice A2 n2 c2, .int .i64 Ac, .int .i64 Pe, .slice A3 m c3] 25)).alloc (.cells #[.slice none 0 0, .slice none 0 0, .int .i64 0, .int .i64 0, .slice none 0 0] 25)).heap.size = w.heap.size + 2 by simp)
  have HF1 := Lib.hid (show ∀ b o, X1 = some ⟨b, o, none⟩ → w.heap.size + 2 ≤ b ∧ b < w2.heap.size from fun b o e => ⟨by have := hf1 b o e; have := HU0.out; omega, hu1 b o e⟩)
  have HF2 := Lib.hid (show ∀ b o, X2 = some ⟨b, o, none⟩ → w.heap.size + 2 ≤ b ∧ b < w2.heap.size from fun b o e => ⟨by have := hf2 b o e; have := HU0.out; omega, hu2 b o e⟩)
  have HF3 := Lib.hid (show ∀ b o, X3 = some ⟨b, o, none⟩ → w.heap.size + 2 ≤ b ∧ b < w2.heap.size from fun b o e => ⟨by have := hf3 b o e; have := HU0.out; omega, hu3 b o e⟩)
  have HI1 := Lib.hid hi1
  have HI2 := Lib.hid hi2
  have HI3 := Lib.hid hi3
  have HK := Lib.hid (And.intro hk1 (And.intro hk2 hk3))
  have hw2 : w.heap.size + 2 ≤ w2.heap.size := by have := hbw2.size; have := HU0.out; omega
  have HP2 := Lib.hid (HP0.out.below hbw2)
  have HQ2 := Lib.hid (HQ0.out.below hbw2)
  have HG2 := Lib.hid (chain HG0.out hbw2)
  clear hbw2 HP0 HQ0 HG0
  clear hO1 hO2 hO3 hi1 hi2 hi3 hf1 hf2 hf3 hu1 hu2 hu3 hB2 hB3 hB3w hk1 hk2 hk3 HU0
  go_wp2_with fail
  refine (KY.out _ (HCV.out.below HG2.out) (HMO.out.below HG2.out)).mono ?_
  rintro r w3 ⟨v, l', rfl, hms, ho, hmc, hbw3⟩
  obtain ⟨A5, c6, rfl, _, _, _⟩ := own_slice ho
  have hw3 : w2.heap.size ≤ w3.heap.size := hbw3.size
  have HMS := Lib.hid hms
  have HOW := Lib.hid ho
  have HMC := Lib.hid hmc
  have HW23 := Lib.hid hbw3
  have HP3 := Lib.hid (HP2.out.below hbw3)
  have HQ3 := Lib.hid (HQ2.out.below hbw3)
  have HG3 := Lib.hid (chain HG2.out hbw3)
  clear hbw3 HP2 HQ2 HG2
  clear hms ho hmc
  have hbw4 : Below w3.heap.size w3 (w3.alloc (.cells #[.slice X1 R.length k1, .slice X2 W.length k2, .int .i64 Ac, .int .i64 Pe, .slice X3 ch.length k3] 25)) := (Below.refl _ _).alloc (Nat.le_refl _) _
  have HS4 := Lib.hid (Cl.new (w := w3) rfl [.slice X1 R.length k1, .slice X2 W.length k2, .int .i64 Ac, .int .i64 Pe, .slice X3 ch.length k3] 25)
  have HP4 := Lib.hid (HP3.out.below hbw4)
  have HQ4 := Lib.hid (HQ3.out.below hbw4)
  have HG4 := Lib.hid (chain HG3.out hbw4)
  clear hbw4 HP3 HQ3 HG3
  have p0 := HP4.out.c 0 rfl
  have p1 := HP4.out.c 1 rfl
  have p2 := HP4.out.c 2 rfl
  have p3 := HP4.out.c 3 rfl
  have p4 := HP4.out.c 4 rfl
  have zp := HP4.out.1
  go_wp2_with fail
  refine (KV.out _ (HB1.out.below HG4.out) (HB2.out.below HG4.out) (HB3.out.below HG4.out)).mono ?_
  rintro r w5 ⟨rfl, hbw5⟩
  have HS5 := Lib.hid (HS4.out.below hbw5)
  have HW5 := Lib.hid (show Below w3.heap.size w3 w5 from ((Below.refl _ _).alloc (Nat.le_refl _) _).trans (hbw5.mono (by simp)))
  have HP5 := Lib.hid (HP4.out.below hbw5)
  have HQ5 := Lib.hid (HQ4.out.below hbw5)
  have HG5 := Lib.hid (chain HG4.out hbw5)
  clear hbw5 HP4 HQ4 HG4
  clear p0 p1 p2 p3 p4 zp KV HS4
  go_wp2_with fail
  refine (KM.out _ (HCV.out.below HG5.out) (HMO.out.below HG5.out)).mono ?_
  rintro r w6 ⟨rfl, hbw6⟩
  have HS6 := Lib.hid (HS5.out.below hbw6)
  have HW6 := Lib.hid (chain HW5.out hbw6)
  have HP6 := Lib.hid (HP5.out.below hbw6)
  have HQ6 := Lib.hid (HQ5.out.below hbw6)
  have HG6 := Lib.hid (chain HG5.out hbw6)
  clear hbw6 HP5 HQ5 HG5
  clear KM HS5 HW5
  obtain ⟨G, hG⟩ : ∃ G, G = (Value.slice A5 mm c6).ownBlock := ⟨_, rfl⟩
  have hg1 : ∀ g, G = some g → w2.heap.size ≤ g ∧ g < w3.heap.size := fun g e => by rw [hG] at e; exact ⟨own_ge HOW.out g e, own_lt HOW.out g e⟩
  have hin : In41 R W ch (l.map MV.m) mm [w3.heap.size, w.heap.size + 1] X1 k1 X2 k2 X3 k3 A5 c6 l' G w w6 := by
    have hb36 : Below w3.heap.size w3 w6 := HW6.out
    have hb26 : Below w2.heap.size w2 w6 := chain HW23.out hb36
    have fr : ∀ (A : Option Addr), (∀ b o, A = some ⟨b, o, none⟩ → w.heap.size + 2 ≤ b ∧ b < w2.heap.size) → ∀ b o, A = some ⟨b, o, none⟩ → b ∉ G.toList ++ [w3.heap.size, w.heap.size + 1] := fun A hA b o e hm => by
      have := hA b o e
      rcases mem_gs hm with h | h
      · have := hg1 b h.symm; omega
      · rcases two_mem h with h | h <;> omega
    refine ⟨HK.out, ⟨⟨HI1.out.below hb26, fun _ => fr _ HF1.out⟩, ⟨HI2.out.below hb26, fun _ => fr _ HF2.out⟩, ⟨HI3.out.below hb26, fun _ => fr _ HF3.out⟩⟩, HMS.out, ?_, ?_, ⟨w2.heap.size, by have := hb36.size; omega, own_below HOW.out hb36⟩, fun b o e => by rw [hG, e]; rfl, fun g e => ?_, fun s hs => ?_, HG6.out⟩
    · rw [← List.length_map (f := MV.m), HMS.out, List.length_map]; exact HLM.out
    · refine (HMC.out.mo _ (fun s hs => ?_)).below hb36
      rcases mem_gs hs with h | h
      · right; left; rw [h, hG]
      · rcases two_mem h with h | h
        · right; right; omega
        · left; omega
    · have := hg1 g e
      have := hb36.size
      refine ⟨by omega, fun h => ?_, by omega⟩
      rcases two_mem h with h | h <;> omega
    · have := hb36.size
      have := HS6.out.1
      rcases two_mem hs with h | h <;> omega
  have HIN := Lib.hid hin
  have HG1 := Lib.hid hg1
  clear hin hg1 hG HMS HMC HOW HI1 HI2 HI3 HF1 HF2 HF3 HK HW6 HW23
  have t0 := HS6.out.c 0 rfl
  have t1 := HS6.out.c 1 rfl
  have t2 := HS6.out.c 2 rfl
  have t3 := HS6.out.c 3 rfl
  have t4 := HS6.out.c 4 rfl
  have zt := HS6.out.1
  go_wp2_with fail
  refine (K41.out _ _ _ _ _ _ _ _ _ _ _ _ HIN.out).mono ?_
  rintro r w7 ⟨⟨Z1, j1, Z2, j2, Z3, j3, A7, c7, Bq, cq, rfl, hlen, hI, hLO, hIB, hcq, hBn⟩, hgb⟩
  obtain rfl : Bq = none := hBn (by rw [han]; rfl)
  subst han
  clear hBn
  have hgT : some w3.heap.size ≠ G := fun e => by have := HG1.out _ e.symm; omega
  have hgQ : some (w.heap.size + 1) ≠ G := fun e => by have := HG1.out _ e.symm; omega
  have hgP : some w.heap.size ≠ G := fun e => by have := HG1.out _ e.symm; omega
  have HP7 := Lib.hid (Cl.gb hgb HP6.out hgP)
  have HQ7 := Lib.hid (Cl.gb hgb HQ6.out hgQ)
  have HS7 := Lib.hid (Cl.gb hgb HS6.out hgT)
  have HG7 := Lib.hid (HG6.out.grown hgb HG6.out.size (fun g e => by have := HG1.out g e; omega))
  clear t0 t1 t2 t3 t4 zt hgT hgQ hgP hgb HP6 HQ6 HS6 HG6 HIN HG1 K41
  have t0 := HS7.out.c 0 rfl
  have t1 := HS7.out.c 1 rfl
  have t2 := HS7.out.c 2 rfl
  have t3 := HS7.out.c 3 rfl
  have t4 := HS7.out.c 4 rfl
  have g0 := HS7.out.f 0 rfl
  have g1 := HS7.out.f 1 rfl
  have g2 := HS7.out.f 2 rfl
  have g3 := HS7.out.f 3 rfl
  have g4 := HS7.out.f 4 rfl
  have zt := HS7.out.1
  have HI7 := Lib.hid hI
  have HLO7 := Lib.hid hLO
  have HIB7 := Lib.hid hIB
  clear hI hLO hIB
  go_upto_region 11 with fail
  obtain ⟨w8, hw8⟩ : ∃ wx, wx = ((((((w7).setCell ⟨w3.heap.size, 0, none⟩ (.slice Z1 Rq.length j1)).setCell ⟨w3.heap.size, 1, none⟩ (.slice Z2 Wq.length j2)).setCell ⟨w3.heap.size, 2, none⟩ (.int .i64 Acq)).setCell ⟨w3.heap.size, 3, none⟩ (.int .i64 Peq)).setCell ⟨w3.heap.size, 4, none⟩ (.slice Z3 Chq.length j3)) := ⟨_, rfl⟩
  have hTQ : w3.heap.size ≠ w.heap.size + 1 := by omega
  have hMt : w3.heap.size ∈ [w3.heap.size, w.heap.size + 1] := List.mem_cons_self
  have hMe : w.heap.size + 1 ∈ [w3.heap.size, w.heap.size + 1] := List.mem_cons_of_mem _ List.mem_cons_self
  have HT1 := Lib.hid (show Cl w3.heap.size w8 [.slice Z1 Rq.length j1, .slice Z2 Wq.length j2, .int .i64 Acq, .int .i64 Peq, .slice Z3 Chq.length j3] by rw [hw8]; exact HS7.out.set5 _ _ _ _ _)
  have HQ1 := Lib.hid (show Cl (w.heap.size + 1) w8 [.slice none 0 0, .slice none 0 0, .int .i64 0, .int .i64 0, .slice none 0 0] by rw [hw8]; exact HQ7.out.far5 hTQ _ _ _ _ _)
  have HG1 := Lib.hid (show Below w.heap.size w w8 by rw [hw8]; exact below_set5 HG7.out (by omega) _ _ _ _ _)
  have HI := Lib.hid (show Iy [w3.heap.size, w.heap.size + 1] .i64 w8 Z1 Rq ∧ Iy [w3.heap.size, w.heap.size + 1] .i64 w8 Z2 Wq ∧ Iy [w3.heap.size, w.heap.size + 1] .i64 w8 Z3 (flat Chq) by rw [hw8]; exact ⟨HI7.out.1.set5 hMt _ _ _ _ _, HI7.out.2.1.set5 hMt _ _ _ _ _, HI7.out.2.2.set5 hMt _ _ _ _ _⟩)
  have HLO := Lib.hid (show LO [w3.heap.size, w.heap.size + 1] w8 A7 ms c7 by rw [hw8]; exact HLO7.out.keep5 hMt _ _ _ _ _)
  have HIB := Lib.hid (show Iy [w3.heap.size, w.heap.size + 1] .u8 w8 _ _ by rw [hw8]; exact HIB7.out.set5 hMt _ _ _ _ _)
  rw [← hw8]
  clear hw8 t0 t1 t2 t3 t4 g0 g1 g2 g3 g4 zt HP7 HQ7 HS7 HG7 HI7 HLO7 HIB7 hTQ hMt KC KY HB1 HB2 HB3 HLM HCV HMO
  have t0 := HT1.out.c 0 rfl
  have t1 := HT1.out.c 1 rfl
  have t2 := HT1.out.c 2 rfl
  have t3 := HT1.out.c 3 rfl
  have t4 := HT1.out.c 4 rfl
  have zt := HT1.out.1
  refine region_K (fun W' => (∀ b o, b < w8.heap.size → W'.cell? ⟨b, o, none⟩ = w8.cell? ⟨b, o, none⟩) ∧ Below w8.heap.size w8 W') 5 (by kernel_rfl) (Kp.mk (Below.refl _ _).drew) (fun hHeld => ?_)
  refine K_take' (i := 1) (v := ?_) rfl (by kernel_rfl) (by kernel_rfl) (by kernel_rfl) (by kernel_rfl) (fun _ _ _ h => h) (Or.inl ⟨by kernel_rfl, ?_⟩) hHeld ?_
  rotate_left 1
  · intro W8 hSw
    clear hSw
    go_simp
    all_goals with_reducible rfl
  try simp only [Act.put, List.setIfInBounds_toArray, List.set_cons_zero, List.set_cons_succ]
  refine K_take' (i := 3) (v := ?_) rfl (by kernel_rfl) (by kernel_rfl) (by kernel_rfl) (by kernel_rfl) (fun _ _ _ h => h) (Or.inl ⟨by kernel_rfl, ?_⟩) hHeld ?_
  rotate_left 1
  · intro W8 hSw
    clear hSw
    go_simp
    all_goals with_reducible rfl
  try simp only [Act.put, List.setIfInBounds_toArray, List.set_cons_zero, List.set_cons_succ]
  refine K_take (i := 0) (v := ?_) rfl (by kernel_rfl) (by kernel_rfl) (by kernel_rfl) (by kernel_rfl) (by kernel_rfl) (fun _ _ _ h => h) (Or.inl ⟨by kernel_rfl, ?_⟩) hHeld ?_
  rotate_left 1
  · intro W8 hSw
    (try dsimp only at hSw)
    go_simp
    all_goals with_reducible rfl
  try simp only [Act.put, List.setIfInBounds_toArray, List.set_cons_zero, List.set_cons_succ]
  refine K_step' (i := 2) (by kernel_rfl) rfl (fun K hK => ?_)
  go_simp
  refine hK.out _ _ (Kp.mk (show Below w8.heap.size w8 _ from ((Below.refl _ _).alloc (Nat.le_refl _) _).drew)) (fun hH2 => ?_)
  clear hK K
  try simp only [Act.put, List.setIfInBounds_toArray, List.set_cons_zero, List.set_cons_succ]
  have hownA := (World.ownsRow_lit w8 (base := w8.heap.size) (e := 5) (size := 1) #[.int .u8 255] 1 (Nat.le_refl _) (by simp [maxLen]) rfl).drew
  have hbW : Below w8.heap.size w8 (w8.alloc (.cells #[.int .u8 255] 5)).drew := ((Below.refl _ _).alloc (Nat.le_refl _) _).drew
  refine K_step' (i := 4) (by kernel_rfl) rfl (fun K hK => ?_)
  refine step_bt0 (by rfl) (.tmp 50) (.tmp 51) (by rfl) w8.heap.size 1 _ _ (by simp [Act.eval, Act.put] <;> rfl) hownA cq (by simp [Act.eval, Act.put] <;> rfl) ?_
  refine hK.out _ _ (Kp.mk hbW) (fun hH4 => ?_)
  clear hK K hH4
  try simp only [Act.put, List.setIfInBounds_toArray, List.set_cons_zero, List.set_cons_succ]
  obtain ⟨w9, hw9⟩ : ∃ w9, w9 = (w8.alloc (.cells #[.int .u8 255] 5)).drew := ⟨_, rfl⟩
  have hi9 : Ik .u8 w9 (some ⟨w8.heap.size, 0, none⟩) [255] := by rw [hw9]; exact (Ik.of_block (k := .u8) (l := [255]) (new_at (W := w8) rfl (.cells #[.int .u8 255] 5))).below ((Below.refl _ _).drew)
  rw [← hw9] at hbW
  rw [← hw9]
  have HQ9 := Lib.hid (HQ1.out.below hbW)
  have HB9 := Lib.hid hbW
  have hqu : w.heap.size + 1 < w8.heap.size := HQ1.out.1
  clear hw9 hownA hH2 hHeld t0 t1 t2 t3 t4 zt hbW
  have q0 := HQ9.out.c 0 rfl
  have q1 := HQ9.out.c 1 rfl
  have q2 := HQ9.out.c 2 rfl
  have q3 := HQ9.out.c 3 rfl
  have q4 := HQ9.out.c 4 rfl
  have f0 := HQ9.out.f 0 rfl
  have f1 := HQ9.out.f 1 rfl
  have f2 := HQ9.out.f 2 rfl
  have f3 := HQ9.out.f 3 rfl
  have f4 := HQ9.out.f 4 rfl
  have zq := HQ9.out.1
  refine K_step (by kernel_rfl) (by kernel_rfl) rfl (fun K hK => ?_)
  go_simp
  refine hK.out _ _ ?_
  clear hK K
  try simp only [Act.put, List.setIfInBounds_toArray, List.set_cons_zero, List.set_cons_succ]
  refine wpAny_ready (rs := [6]) (by kernel_rfl) (by simp) (AllReady.cons rfl (fun K hK => ?_) AllReady.nil)
  go_simp
  refine hK _ _ ?_
  clear hK K
  try simp only [Act.put, List.setIfInBounds_toArray, List.set_cons_zero, List.set_cons_succ]
  refine wpAny_ready (rs := [7]) (by kernel_rfl) (by simp) (AllReady.cons rfl (fun K hK => ?_) AllReady.nil)
  go_simp
  refine hK _ _ ?_
  clear hK K
  try simp only [Act.put, List.setIfInBounds_toArray, List.set_cons_zero, List.set_cons_succ]
  refine wpAny_done (by kernel_rfl) ?_ _
  have HG9 := Lib.hid (chain HG1.out HB9.out)
  have HI9 := Lib.hid hi9
  clear hi9 HQ1 HG1 HT1
  go_wp2_with fail
  refine bodyPost_ret (v := .tuple #[.agg #[.slice Z1 Rq.length j1, .slice Z2 Wq.length j2, .int .i64 Acq, .int .i64 Peq, .slice Z3 Chq.length j3], .slice A7 ms.length c7, .slice (some ⟨w8.heap.size, 0, none⟩) 1 1]) (by simp [results, Try.results22, go_sem, q0, f0, q1, f1, q2, f2, q3, f3, q4, f4, zq] <;> first | rfl | ((repeat' apply And.intro) <;> rfl)) rfl ⟨Z1, j1, Z2, j2, Z3, j3, A7, c7, some ⟨w8.heap.size, 0, none⟩, 1, rfl, hlen, ⟨((HI.out.1.below HB9.out).set5 hMe _ _ _ _ _).1, ((HI.out.2.1.below HB9.out).set5 hMe _ _ _ _ _).1, ((HI.out.2.2.below HB9.out).set5 hMe _ _ _ _ _).1⟩, (HLO.out.below HB9.out).set5 hMe _ _ _ _ _, HI9.out.fr5 (fr_at (Nat.le_refl w8.heap.size)) hqu _ _ _ _ _, by simp, below_set5 HG9.out (by omega) _ _ _ _ _⟩
end Go.Proofs.Ytamajedopofcoaa
