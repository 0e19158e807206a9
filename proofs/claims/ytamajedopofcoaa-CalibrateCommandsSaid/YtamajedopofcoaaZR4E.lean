/-
  The contract of the reference's command for the command that sets a measure. No condition but the slices' shape.
-/
import Derived.Test.YtamajedopofcoaaZR4D
set_option linter.unusedVariables false
set_option linter.unusedSimpArgs false
namespace Go.Proofs.Ytamajedopofcoaa
open Go.RowKit
theorem set_last {α : Type} (l : List α) (y : α) (n : Nat) (h : l.length = n) : (l ++ [y]).set n y = l ++ [y] := by subst h; simp
set_option maxRecDepth 100000 in
set_option maxHeartbeats 16000000 in
theorem r42_meas (A : Option Addr) (n c : Nat) (A2 : Option Addr) (n2 c2 : Nat) (Ac Pe : Int) (A3 : Option Addr) (m c3 : Nat) (R W : List Int) (ch : List (Int × Int)) (A4 : Option Addr) (mm c4 : Nat) (l : List MV) (b o nb c5 : Nat) (S : List Nat) (kk ev ey : Int) (z : Nat) (bs : List Int) (mr : List MS × Int) (w : World) (hl : R.length = n) (hb : Ik .i64 w A R) (hc : n ≤ c) (hl2 : W.length = n2) (hb2 : Ik .i64 w A2 W) (hc2 : n2 ≤ c2) (hl3 : ch.length = m) (hb3 : Ik .i64 w A3 (flat ch)) (hc3 : m ≤ c3) (hs : n ≤ 5000) (hs2 : n2 ≤ 5000) (hs3 : m ≤ 5000) (hlm : l.length = mm) (hcv : Cv w A4 (flatM l)) (hmo : Mo [] w l) (hcm : mm ≤ c4) (hms : Mo S w l) (hSw : ∀ s ∈ S, s < w.heap.size) (hmm : mm ≤ 100) (hv : vP R W Ac Pe ch = true) (hm8 : (decide (mm ≤ 8) && !l.any bV) = true) (K56 : ∀ w1, Below w.heap.size w w1 → Calls Try.prog 56 #[.slice (some ⟨b, o, none⟩) nb c5] w1 fun r w' => r = .returned (.bool true) ∧ w1 = w') (hbs : bs.length = nb) (hB : Ik .u8 w (some ⟨b, o, none⟩) bs) (hr8 : ∀ x ∈ bs, 0 ≤ x ∧ x ≤ 255) (hbl : b < w.heap.size) (hc5 : nb ≤ c5) (e0 : bs.getD 0 0 = 4) (e1 : bs.getD 1 0 = kk) (e2 : bs.getD 2 0 = ev) (e3 : bs.getD 3 0 = (z : Int)) (e45 : bs.getD 4 0 * 256 + bs.getD 5 0 = ey) (hnz : nb = 6 + 2 * z) (hz : z ≤ 255) (hmr : mr = meaM (l.map MV.m) kk ⟨ev, ey, 0, celsM bs z, false⟩) : Calls Try.prog 42 #[.agg #[.slice A n c, .slice A2 n2 c2, .int .i64 Ac, .int .i64 Pe, .slice A3 m c3], .slice A4 mm c4, .slice (some ⟨b, o, none⟩) nb c5] w (fun r w' => (mr.2 ≠ 0 ∧ (∃ X1 n1' k1 X2 n2' k2 a1 a2 X3 n3' k3 vm va, r = .returned (.tuple #[.agg #[.slice X1 n1' k1, .slice X2 n2' k2, .int .i64 a1, .int .i64 a2, .slice X3 n3' k3], vm, va, .int .i64 mr.2]) ∧ Below w.heap.size w w')) ∨ (mr.2 = 0 ∧ ∃ A5 c5', r = .returned (.tuple #[.agg #[.slice A n c, .slice A2 n2 c2, .int .i64 Ac, .int .i64 Pe, .slice A3 m c3], .slice A5 mr.1.length c5', .slice none 0 0, .int .i64 0]) ∧ LO S w' A5 mr.1 c5' ∧ Below w.heap.size w w')) := by
  have HSW := Lib.hid hSw
  have HMR := Lib.hid hmr
  clear hSw hmr
  have hn6 : 6 ≤ nb := by omega
  have hpos : (0 : Int) < (nb : Int) := by omega
  obtain ⟨h0, _, _⟩ := byte_at hB hr8 (i := 0) (by omega)
  obtain ⟨h1, k0, k1⟩ := byte_at hB hr8 (i := 1) (by omega)
  obtain ⟨h2, v0, v1⟩ := byte_at hB hr8 (i := 2) (by omega)
  obtain ⟨h3, _, _⟩ := byte_at hB hr8 (i := 3) (by omega)
  obtain ⟨h4, y40, y41⟩ := byte_at hB hr8 (i := 4) (by omega)
  obtain ⟨h5, y50, y51⟩ := byte_at hB hr8 (i := 5) (by omega)
  rw [e0, Nat.add_zero] at h0
  rw [e1] at h1 k0 k1
  rw [e2] at h2 v0 v1
  rw [e3] at h3
  have KI4 := fun w h h' => rindex57 b (o + 4) (nb - 4) (c5 - 4) (bs.getD 4 0) (bs.getD 5 0) w (by omega) (by omega) h h' y40 y41 y50 y51
  rw [e45] at KI4
  replace KI4 := Lib.hid KI4
  have HH4 := Lib.hid h4
  have HH5 := Lib.hid h5
  have HBS := Lib.hid hbs
  have HBY := Lib.hid hB
  have HR8 := Lib.hid hr8
  have hz1 : nb ≤ 6 + 2 * z := by omega
  have hz2 : 6 + 2 * z ≤ nb := by omega
  have HWE := Lib.hid (show IntKind.i64.wrap ev = ev by rw [IntKind.wrap_i64]; omega)
  clear hbs hB hr8 e0 e1 e2 e3 e45 hnz h4 h5 y40 y41 y50 y51
  have KV := fun w h h2 h3 => rvalid12 A n c A2 n2 c2 Ac Pe A3 m c3 R W ch w hl h hc hl2 h2 hc2 hl3 h3 hc3 hs hs2 hs3
  rw [hv] at KV
  replace KV := Lib.hid KV
  have KM := fun w h h' => rmeas55 A4 mm c4 l w hlm h h' hcm
  rw [hm8] at KM
  replace KM := Lib.hid KM
  have HCV := Lib.hid hcv
  have HMO := Lib.hid hmo
  have HB1 := Lib.hid hb
  have HB2 := Lib.hid hb2
  have HB3 := Lib.hid hb3
  have HP0 := Lib.hid ((Cl.new (w := w) rfl [.slice A n c, .slice A2 n2 c2, .int .i64 Ac, .int .i64 Pe, .slice A3 m c3] 25).below ((Below.refl _ _).alloc (Nat.le_refl _) (.cells #[.slice none 0 0, .slice none 0 0, .int .i64 0, .int .i64 0, .slice none 0 0] 25)))
  have HQ0 := Lib.hid (Cl.new (P := w.heap.size + 1) (w := w.alloc (.cells #[.slice A n c, .slice A2 n2 c2, .int .i64 Ac, .int .i64 Pe, .slice A3 m c3] 25)) (by simp) [.slice none 0 0, .slice none 0 0, .int .i64 0, .int .i64 0, .slice none 0 0] 25)
  have HG0 := Lib.hid (show Below w.heap.size w ((w.alloc (.cells #[.slice A n c, .slice A2 n2 c2, .int .i64 Ac, .int .i64 Pe, .slice A3 m c3] 25)).alloc (.cells #[.slice none 0 0, .slice none 0 0, .int .i64 0, .int .i64 0, .slice none 0 0] 25)) by go_grown)
  have HLM := Lib.hid hlm
  have HMS := Lib.hid hms
  replace K56 := Lib.hid K56
  clear hl hl2 hl3 hb hb2 hb3 hlm hcv hmo hm8 hms
  go_enter Try.func42, Try.ntmps42
  have p0 := HP0.out.c 0 rfl
  have p1 := HP0.out.c 1 rfl
  have p2 := HP0.out.c 2 rfl
  have p3 := HP0.out.c 3 rfl
  have p4 := HP0.out.c 4 rfl
  have zp := HP0.out.1
  go_wp2_with fail
  refine (KV.out _ (HB1.out.below HG0.out) (HB2.out.below HG0.out) (HB3.out.below HG0.out)).mono ?_
  rintro r w1 ⟨rfl, hbw1⟩
  have HP1 := Lib.hid (HP0.out.below hbw1)
  have HQ1 := Lib.hid (HQ0.out.below hbw1)
  have HG1 := Lib.hid (chain HG0.out hbw1)
  clear hbw1 HP0 HQ0 HG0
  clear p0 p1 p2 p3 p4 zp KV
  go_wp2_with fail
  refine (KM.out _ (HCV.out.below HG1.out) (HMO.out.below HG1.out)).mono ?_
  rintro r m4 ⟨rfl, hbm4⟩
  have HP4 := Lib.hid (HP1.out.below hbm4)
  have HQ4 := Lib.hid (HQ1.out.below hbm4)
  have HG4 := Lib.hid (chain HG1.out hbm4)
  clear hbm4 HP1 HQ1 HG1
  clear KM
  go_wp2_with fail
  refine (K56.out _ HG4.out).mono ?_
  rintro r w3 ⟨rfl, rfl⟩
  have hb4 : b < m4.heap.size := by have := HG4.out.size; omega
  have hPm : w.heap.size < m4.heap.size := HP4.out.1
  have hm2 : w.heap.size + 2 ≤ m4.heap.size := HQ4.out.1
  have s1 : m4.cell? ⟨b, o, none⟩ = some (.int .u8 4) := ((bcell HG4.out).1 b _ hbl).trans h0
  have s2 : m4.cell? ⟨b, o + 1, none⟩ = some (.int .u8 kk) := ((bcell HG4.out).1 b _ hbl).trans h1
  have hlm' : ((l.map MV.m).length : Int) = (mm : Int) := by rw [List.length_map, HLM.out]
  have f1' : (1 : Int) < (nb : Int) := by omega
  go_upto_region 16 with fail
  go_wp2_with (at_builtin; go_loud (refine app_mv rfl _ _ rfl m4.heap.size 0 _ [] rfl (World.ownsRow_made m4 #[] 0 (Nat.le_refl _) (by simp [maxLen]) rfl) _ mm c4 (flatM l) rfl (by rw [flatM_len, HLM.out]) ((HCV.out.below HG4.out).below ((Below.refl _ _).alloc (Nat.le_refl _) _)) (flatM_one_cell _) (by omega) (by simp) ?_))
  intro vn m5 hown hbn
  have HO := Lib.hid hown
  have hbN : Below m4.heap.size m4 m5 := ((Below.refl _ _).alloc (Nat.le_refl _) _).trans hbn
  have HP5 := Lib.hid (HP4.out.below hbN)
  have HQ5 := Lib.hid (HQ4.out.below hbN)
  have HG5 := Lib.hid (chain HG4.out hbN)
  have HB45 := Lib.hid hbN
  obtain ⟨An, cn, rfl, hAn, hcn, _⟩ := own_slice hown
  clear hown hbn hbN hAn
  have hb5 : b < m5.heap.size := by have := HG5.out.size; omega
  have h45 := HB45.out.size
  have s1' : m5.cell? ⟨b, o, none⟩ = some (.int .u8 4) := ((bcell HG5.out).1 b _ hbl).trans h0
  clear s1 s2
  by_cases hrg : (mm : Int) < kk ∨ 8 ≤ kk
  · have HMM : Hid (meaM (l.map MV.m) kk ⟨ev, ey, 0, celsM bs z, false⟩ = (l.map MV.m, 2)) := Lib.hid (by unfold meaM; rw [hlm', if_pos hrg])
    by_cases hr1 : (mm : Int) < kk
    · have d1 : decide ((mm : Int) < kk) = true := by simp [hr1]
      clear hrg hr1 hlm'
      have p0 := HP5.out.c 0 rfl
      have p1 := HP5.out.c 1 rfl
      have p2 := HP5.out.c 2 rfl
      have p3 := HP5.out.c 3 rfl
      have p4 := HP5.out.c 4 rfl
      have q0 := HQ5.out.c 0 rfl
      have q1 := HQ5.out.c 1 rfl
      have q2 := HQ5.out.c 2 rfl
      have q3 := HQ5.out.c 3 rfl
      have q4 := HQ5.out.c 4 rfl
      have f0 := HQ5.out.f 0 rfl
      have f1 := HQ5.out.f 1 rfl
      have f2 := HQ5.out.f 2 rfl
      have f3 := HQ5.out.f 3 rfl
      have f4 := HQ5.out.f 4 rfl
      have zp := HP5.out.1
      have zq := HQ5.out.1
      go_wp2_with fail
      refine bodyPost_ret (v := .tuple #[.agg #[.slice A n c, .slice A2 n2 c2, .int .i64 Ac, .int .i64 Pe, .slice A3 m c3], .slice A4 mm c4, .slice none 0 0, .int .i64 2]) (by simp [results, Try.results42, go_sem, q0, f0, q1, f1, q2, f2, q3, f3, q4, f4, zq] <;> first | rfl | ((repeat' apply And.intro) <;> rfl)) rfl (Or.inl ⟨?_, A, n, c, A2, n2, c2, Ac, Pe, A3, m, c3, .slice A4 mm c4, .slice none 0 0, ?_, below_set5 HG5.out (by omega) _ _ _ _ _⟩)
      · rw [HMR.out, HMM.out]; simp
      · rw [HMR.out, HMM.out]
    · have d1 : decide ((mm : Int) < kk) = false := by simp; omega
      have d2 : decide (8 ≤ kk) = true := by simp; omega
      clear hrg hr1 hlm'
      have p0 := HP5.out.c 0 rfl
      have p1 := HP5.out.c 1 rfl
      have p2 := HP5.out.c 2 rfl
      have p3 := HP5.out.c 3 rfl
      have p4 := HP5.out.c 4 rfl
      have q0 := HQ5.out.c 0 rfl
      have q1 := HQ5.out.c 1 rfl
      have q2 := HQ5.out.c 2 rfl
      have q3 := HQ5.out.c 3 rfl
      have q4 := HQ5.out.c 4 rfl
      have f0 := HQ5.out.f 0 rfl
      have f1 := HQ5.out.f 1 rfl
      have f2 := HQ5.out.f 2 rfl
      have f3 := HQ5.out.f 3 rfl
      have f4 := HQ5.out.f 4 rfl
      have zp := HP5.out.1
      have zq := HQ5.out.1
      go_wp2_with fail
      refine bodyPost_ret (v := .tuple #[.agg #[.slice A n c, .slice A2 n2 c2, .int .i64 Ac, .int .i64 Pe, .slice A3 m c3], .slice A4 mm c4, .slice none 0 0, .int .i64 2]) (by simp [results, Try.results42, go_sem, q0, f0, q1, f1, q2, f2, q3, f3, q4, f4, zq] <;> first | rfl | ((repeat' apply And.intro) <;> rfl)) rfl (Or.inl ⟨?_, A, n, c, A2, n2, c2, Ac, Pe, A3, m, c3, .slice A4 mm c4, .slice none 0 0, ?_, below_set5 HG5.out (by omega) _ _ _ _ _⟩)
      · rw [HMR.out, HMM.out]; simp
      · rw [HMR.out, HMM.out]
  · have hk8 : ¬ ((mm : Int) < kk) := fun h => hrg (Or.inl h)
    have hk9 : ¬ (8 ≤ kk) := fun h => hrg (Or.inr h)
    have d1 : decide ((mm : Int) < kk) = false := by simp; omega
    have d2 : decide (8 ≤ kk) = false := by simp; omega
    go_upto_region 20 with fail
    clear d1 d2
    have s3 : m5.cell? ⟨b, o + 2, none⟩ = some (.int .u8 ev) := ((bcell HG5.out).1 b _ hbl).trans h2
    have s4 : m5.cell? ⟨b, o + 3, none⟩ = some (.int .u8 (z : Int)) := ((bcell HG5.out).1 b _ hbl).trans h3
    have HS5 := Lib.hid (((bcell HG5.out).1 b _ hbl).trans HH4.out)
    have HS6 := Lib.hid (((bcell HG5.out).1 b _ hbl).trans HH5.out)
    clear h0 h1 h2 h3 HH4 HH5
    have hm2' : w.heap.size + 2 ≤ m5.heap.size := HQ5.out.1
    have f1'' : (2 : Int) < (nb : Int) := by omega
    have f2' : (4 : Int) ≤ (nb : Int) := by omega
    have f3' : (4 : Int) ≤ (c5 : Int) := by omega
    have f4' : ¬ (c5 = 4) := by omega
    go_cut [18] from 104 to 111 (fun v18 wc => ∃ T : Nat, v18 = .pointer (some ⟨T, 0, none⟩) ∧ m5.heap.size ≤ T ∧ Cl T wc [.int .i64 ev, .int .i64 ey, .int .i64 0, .slice none 0 0, .bool false] ∧ Below m5.heap.size m5 wc)
    case first =>
      refine region_K (fun W' => (∀ b o, b < m5.heap.size → W'.cell? ⟨b, o, none⟩ = m5.cell? ⟨b, o, none⟩) ∧ Below m5.heap.size m5 W') 9 (by kernel_rfl) (Kp.mk (Below.refl _ _).drew) (fun hHeld => ?_)
      refine K_take' (i := 0) (v := ?_) rfl (by kernel_rfl) (by kernel_rfl) (by kernel_rfl) (by kernel_rfl) (fun _ _ _ h => h) (Or.inl ⟨by kernel_rfl, ?_⟩) hHeld ?_
      rotate_left 1
      · intro W8 hSw
        clear hSw
        go_simp
        all_goals with_reducible rfl
      try simp only [Act.put, List.setIfInBounds_toArray, List.set_cons_zero, List.set_cons_succ]
      refine K_take' (i := 4) (v := ?_) rfl (by kernel_rfl) (by kernel_rfl) (by kernel_rfl) (by kernel_rfl) (fun _ _ _ h => h) (Or.inl ⟨by kernel_rfl, ?_⟩) hHeld ?_
      rotate_left 1
      · intro W8 hSw
        clear hSw
        go_simp
        all_goals with_reducible rfl
      try simp only [Act.put, List.setIfInBounds_toArray, List.set_cons_zero, List.set_cons_succ]
      refine K_take' (i := 1) (v := ?_) rfl (by kernel_rfl) (by kernel_rfl) (by kernel_rfl) (by kernel_rfl) (fun _ _ _ h => h) (Or.inl ⟨by kernel_rfl, ?_⟩) hHeld ?_
      rotate_left 1
      · intro W8 hSw
        clear hSw
        go_simp
        all_goals with_reducible rfl
      try simp only [Act.put, List.setIfInBounds_toArray, List.set_cons_zero, List.set_cons_succ]
      refine K_take (i := 2) (v := ?_) rfl (by kernel_rfl) (by kernel_rfl) (by kernel_rfl) (by kernel_rfl) (by kernel_rfl) (fun _ _ _ h => h) (Or.inl ⟨by kernel_rfl, ?_⟩) hHeld ?_
      rotate_left 1
      · intro W8 hSw
        (try dsimp only at hSw)
        go_simp
        all_goals with_reducible rfl
      try simp only [Act.put, List.setIfInBounds_toArray, List.set_cons_zero, List.set_cons_succ]
      refine K_take' (i := 3) (v := ?_) rfl (by kernel_rfl) (by kernel_rfl) (by kernel_rfl) (by kernel_rfl) (fun _ _ _ h => h) (Or.inl ⟨by kernel_rfl, ?_⟩) hHeld ?_
      rotate_left 1
      · intro W8 hSw
        clear hSw
        go_simp
        all_goals with_reducible rfl
      try simp only [Act.put, List.setIfInBounds_toArray, List.set_cons_zero, List.set_cons_succ]
      refine K_take' (i := 5) (v := ?_) rfl (by kernel_rfl) (by kernel_rfl) (by kernel_rfl) (by kernel_rfl) (fun _ _ _ h => h) (Or.inl ⟨by kernel_rfl, ?_⟩) hHeld ?_
      rotate_left 1
      · intro W8 hSw
        clear hSw
        go_simp
        all_goals with_reducible rfl
      try simp only [Act.put, List.setIfInBounds_toArray, List.set_cons_zero, List.set_cons_succ]
      refine K_both (i := 6) (j := 8) (by kernel_rfl) rfl rfl (fun K hK => ?_) (fun K hK => ?_)
      · go_simp
        refine (KI4.out _ ((hHeld.1 b _ hb5).trans HS5.out) ((hHeld.1 b _ hb5).trans HS6.out)).mono ?_
        rintro r w9 ⟨rfl, hbw9⟩
        have hkw9 := Kp.next hHeld hbw9
        refine hK.out _ _ hkw9 (fun hHn => ?_)
        clear hK K hHn
        try simp only [Act.put, List.setIfInBounds_toArray, List.set_cons_zero, List.set_cons_succ]
        refine K_take' (i := 7) (v := ?_) rfl (by kernel_rfl) (by kernel_rfl) (by kernel_rfl) (by kernel_rfl) (fun _ _ _ h => h) (Or.inl ⟨by kernel_rfl, ?_⟩) hkw9 ?_
        rotate_left 1
        · intro W8 hSw
          clear hSw
          go_simp
          all_goals with_reducible rfl
        try simp only [Act.put, List.setIfInBounds_toArray, List.set_cons_zero, List.set_cons_succ]
        refine K_step' (i := 8) (by kernel_rfl) rfl (fun K hK => ?_)
        go_simp
        refine hK.out _ _ (Kp.next hkw9 ((Below.refl _ _).alloc (Nat.le_refl _) (.cells #[.int .i64 0, .int .i64 0, .int .i64 0, .slice none 0 0, .bool false] 66))) (fun hHn => ?_)
        clear hK K hHn
        try simp only [Act.put, List.setIfInBounds_toArray, List.set_cons_zero, List.set_cons_succ]
        refine K_step (by kernel_rfl) (by kernel_rfl) rfl (fun K hK => ?_)
        go_simp
        refine hK.out _ _ ?_
        clear hK K
        try simp only [Act.put, List.setIfInBounds_toArray, List.set_cons_zero, List.set_cons_succ]
        refine wpAny_done (by kernel_rfl) ?_ _
        have hz9 := hkw9.2.size
        have HK9 := Lib.hid hkw9.2
        clear hkw9 hbw9 hHeld
        try rw [HWE.out]
        go_wp2_with fail
        go_meet
        case rel => exact ⟨w9.heap.size, rfl, hz9, Cl.new rfl [.int .i64 ev, .int .i64 ey, .int .i64 0, .slice none 0 0, .bool false] 66, HK9.out.alloc hz9 _⟩
      · go_simp
        refine hK.out _ _ (Kp.mk (show Below m5.heap.size m5 _ from ((Below.refl _ _).alloc (Nat.le_refl _) _).drew)) (fun hHeld2 => ?_)
        clear hK K
        try simp only [Act.put, List.setIfInBounds_toArray, List.set_cons_zero, List.set_cons_succ]
        refine K_step' (i := 6) (by kernel_rfl) rfl (fun K hK => ?_)
        go_simp
        refine (KI4.out _ ((hHeld2.1 b _ hb5).trans HS5.out) ((hHeld2.1 b _ hb5).trans HS6.out)).mono ?_
        rintro r w9 ⟨rfl, hbw9⟩
        have hkw9 := Kp.next hHeld2 hbw9
        have CT : Cl m5.heap.size w9 [.int .i64 0, .int .i64 0, .int .i64 0, .slice none 0 0, .bool false] := ((Cl.new (w := m5) rfl [.int .i64 0, .int .i64 0, .int .i64 0, .slice none 0 0, .bool false] 66).below ((Below.refl _ _).drew)).below hbw9
        have t0 := CT.c 0 rfl
        have t1 := CT.c 1 rfl
        have t2 := CT.c 2 rfl
        have t3 := CT.c 3 rfl
        have t4 := CT.c 4 rfl
        have q0 := CT.f 0 rfl
        have q1 := CT.f 1 rfl
        have q2 := CT.f 2 rfl
        have q3 := CT.f 3 rfl
        have q4 := CT.f 4 rfl
        have zt := CT.1
        have HCT := Lib.hid CT
        clear CT
        refine hK.out _ _ hkw9 (fun hHn => ?_)
        clear hK K hHn
        try simp only [Act.put, List.setIfInBounds_toArray, List.set_cons_zero, List.set_cons_succ]
        refine K_take' (i := 7) (v := ?_) rfl (by kernel_rfl) (by kernel_rfl) (by kernel_rfl) (by kernel_rfl) (fun _ _ _ h => h) (Or.inl ⟨by kernel_rfl, ?_⟩) hkw9 ?_
        rotate_left 1
        · intro W8 hSw
          clear hSw
          go_simp
          all_goals with_reducible rfl
        try simp only [Act.put, List.setIfInBounds_toArray, List.set_cons_zero, List.set_cons_succ]
        refine K_step (by kernel_rfl) (by kernel_rfl) rfl (fun K hK => ?_)
        go_simp
        refine hK.out _ _ ?_
        clear hK K
        try simp only [Act.put, List.setIfInBounds_toArray, List.set_cons_zero, List.set_cons_succ]
        refine wpAny_done (by kernel_rfl) ?_ _
        have HK9 := Lib.hid hkw9.2
        clear hkw9 hbw9 hHeld hHeld2 t0 t1 t2 t3 t4 q0 q1 q2 q3 q4 zt
        try rw [HWE.out]
        go_wp2_with fail
        go_meet
        case rel => exact ⟨m5.heap.size, rfl, Nat.le_refl _, HCT.out.set5 _ _ _ _ _, below_set5 HK9.out (Nat.le_refl _) _ _ _ _ _⟩
    case rest =>
      obtain ⟨T, rfl, hT, hC, hB5⟩ := hcut
      have HC0 := Lib.hid hC
      have HB50 := Lib.hid hB5
      have HS4 := Lib.hid s4
      clear hC hB5 s1' s3 s4 KI4 HS5 HS6 f1'' f2' f3' f4' HWE
      have d5 : (3 : Int) < (nb : Int) := by omega
      go_upto_region 22 with fail
      go_loopg [19] z (fun gk v wr => ∃ (k : Nat) (X : Option Addr) (cx : Nat), k ≤ z ∧ z - k ≤ gk ∧ v = .int .i64 k ∧ k ≤ cx ∧ Cl T wr [.int .i64 ev, .int .i64 ey, .int .i64 0, .slice X k cx, .bool false] ∧ wr.ownsRow (T + 1) 3 1 (.slice X k cx) k (((celsM bs z).take k).map (Value.int .i64)) ∧ Below m5.heap.size m5 wr)
      case atStart => exact ⟨0, none, 0, by omega, by omega, rfl, Nat.le_refl _, HC0.out, World.ownsRow_nil _ _ _ _, HB50.out⟩
      case round =>
        clear HC0 HB50
        obtain ⟨k, X, cx, hk, hgk, rfl, hkc, hC, hX, hB5⟩ := hrel
        have HC := Lib.hid hC
        have HX := Lib.hid hX
        have HB5 := Lib.hid hB5
        have hTw : T < wr.heap.size := hC.1
        have hbw : b < wr.heap.size := by have := hB5.size; omega
        have s4 : wr.cell? ⟨b, o + 3, none⟩ = some (.int .u8 (z : Int)) := ((bcell HB5.out).1 b _ hb5).trans HS4.out
        clear hC hX hB5
        by_cases hlt : k < z
        · obtain ⟨j, hj⟩ : ∃ j, j = 6 + 2 * k := ⟨_, rfl⟩
          obtain ⟨q0, y0, y1⟩ := byte_at (HBY.out.below (chain HG5.out HB5.out)) HR8.out (i := j) (by rw [HBS.out]; omega)
          obtain ⟨q1, y2, y3⟩ := byte_at (HBY.out.below (chain HG5.out HB5.out)) HR8.out (i := j + 1) (by rw [HBS.out]; omega)
          have hval := celsM_take (bs := bs) hlt
          rw [← hj, show 7 + 2 * k = j + 1 by omega] at hval
          obtain ⟨val, hv⟩ : ∃ val, val = bs.getD j 0 * 256 + bs.getD (j + 1) 0 := ⟨_, rfl⟩
          rw [← hv] at hval
          have KI := fun w h h' => rindex57 b (o + j) (nb - j) (c5 - j) (bs.getD j 0) (bs.getD (j + 1) 0) w (by omega) (by omega) h h' y0 y1 y2 y3
          rw [← hv] at KI
          replace KI := Lib.hid KI
          have HV := Lib.hid hval
          have w1' : IntKind.i64.wrap (2 * (k : Int)) = 2 * (k : Int) := by rw [IntKind.wrap_i64]; omega
          have w2' : IntKind.i64.wrap (6 + 2 * (k : Int)) = 6 + 2 * (k : Int) := by rw [IntKind.wrap_i64]; omega
          have t1 : (6 + 2 * (k : Int)).toNat = j := by omega
          have t2 : (0 : Int) ≤ 6 + 2 * (k : Int) := by omega
          have t3 : 6 + 2 * (k : Int) ≤ (nb : Int) := by omega
          have t4 : ¬ (c5 = j) := by omega
          rw [← Nat.add_assoc] at q1
          have HQ0 := Lib.hid q0
          have HQ1 := Lib.hid q1
          clear q0 q1 y0 y1 y2 y3 hval hv hj
          go_upto_region 24 with fail
          have p0 := HC.out.c 0 rfl
          have p1 := HC.out.c 1 rfl
          have p2 := HC.out.c 2 rfl
          have p3 := HC.out.c 3 rfl
          have p4 := HC.out.c 4 rfl
          have zp := HC.out.1
          refine region_K (fun W' => (∀ b o, b < T + 1 → W'.cell? ⟨b, o, none⟩ = wr.cell? ⟨b, o, none⟩) ∧ Below (T + 1) wr W') 11 (by kernel_rfl) (KpB.mk (Below.refl _ _).drew) (fun hHeld => ?_)
          refine K_take' (i := 0) (v := ?_) rfl (by kernel_rfl) (by kernel_rfl) (by kernel_rfl) (by kernel_rfl) (fun _ _ _ h => h) (Or.inl ⟨by kernel_rfl, ?_⟩) hHeld ?_
          rotate_left 1
          · intro W8 hSw
            clear hSw
            go_simp
            all_goals with_reducible rfl
          try simp only [Act.put, List.setIfInBounds_toArray, List.set_cons_zero, List.set_cons_succ]
          refine K_take (i := 1) (v := ?_) rfl (by kernel_rfl) (by kernel_rfl) (by kernel_rfl) (by kernel_rfl) (by kernel_rfl) (fun _ _ _ h => h) (Or.inl ⟨by kernel_rfl, ?_⟩) hHeld ?_
          rotate_left 1
          · intro W8 hSw
            (try dsimp only at hSw)
            go_simp
            all_goals with_reducible rfl
          try simp only [Act.put, List.setIfInBounds_toArray, List.set_cons_zero, List.set_cons_succ]
          refine K_take' (i := 2) (v := ?_) rfl (by kernel_rfl) (by kernel_rfl) (by kernel_rfl) (by kernel_rfl) (fun _ _ _ h => h) (Or.inl ⟨by kernel_rfl, ?_⟩) hHeld ?_
          rotate_left 1
          · intro W8 hSw
            clear hSw
            go_simp
            all_goals with_reducible rfl
          try simp only [Act.put, List.setIfInBounds_toArray, List.set_cons_zero, List.set_cons_succ]
          refine K_take' (i := 3) (v := ?_) rfl (by kernel_rfl) (by kernel_rfl) (by kernel_rfl) (by kernel_rfl) (fun _ _ _ h => h) (Or.inl ⟨by kernel_rfl, ?_⟩) hHeld ?_
          rotate_left 1
          · intro W8 hSw
            clear hSw
            go_simp
            all_goals with_reducible rfl
          try simp only [Act.put, List.setIfInBounds_toArray, List.set_cons_zero, List.set_cons_succ]
          refine K_take' (i := 4) (v := ?_) rfl (by kernel_rfl) (by kernel_rfl) (by kernel_rfl) (by kernel_rfl) (fun _ _ _ h => h) (Or.inl ⟨by kernel_rfl, ?_⟩) hHeld ?_
          rotate_left 1
          · intro W8 hSw
            clear hSw
            go_simp
            all_goals with_reducible rfl
          try simp only [Act.put, List.setIfInBounds_toArray, List.set_cons_zero, List.set_cons_succ]
          refine K_take' (i := 5) (v := ?_) rfl (by kernel_rfl) (by kernel_rfl) (by kernel_rfl) (by kernel_rfl) (fun _ _ _ h => h) (Or.inl ⟨by kernel_rfl, ?_⟩) hHeld ?_
          rotate_left 1
          · intro W8 hSw
            clear hSw
            go_simp
            all_goals with_reducible rfl
          try simp only [Act.put, List.setIfInBounds_toArray, List.set_cons_zero, List.set_cons_succ]
          refine K_take' (i := 6) (v := ?_) rfl (by kernel_rfl) (by kernel_rfl) (by kernel_rfl) (by kernel_rfl) (fun _ _ _ h => h) (Or.inl ⟨by kernel_rfl, ?_⟩) hHeld ?_
          rotate_left 1
          · intro W8 hSw
            clear hSw
            go_simp
            all_goals with_reducible rfl
          try simp only [Act.put, List.setIfInBounds_toArray, List.set_cons_zero, List.set_cons_succ]
          refine K_step' (i := 7) (by kernel_rfl) rfl (fun K hK => ?_)
          go_simp
          refine (KI.out wr.drew ((drew_cell _ _).trans HQ0.out) ((drew_cell _ _).trans HQ1.out)).mono ?_
          rintro r w9 ⟨rfl, hb9⟩
          have hb9' : Below wr.heap.size wr w9 := (Below.refl _ _).drew.trans hb9
          have HB9 := Lib.hid hb9'
          have hz9 := hb9'.size
          refine hK.out _ _ (KpB.mk (hb9'.mono hTw)) (fun hHn => ?_)
          clear hK K hHn hb9 hb9'
          try simp only [Act.put, List.setIfInBounds_toArray, List.set_cons_zero, List.set_cons_succ]
          refine K_step' (i := 8) (by kernel_rfl) rfl (fun K hK => ?_)
          go_simp
          have al : Below w9.heap.size w9 (w9.alloc (.cells #[.int .i64 val] 3)) := (Below.refl _ _).alloc (Nat.le_refl _) _
          have HB10 := Lib.hid (chain HB9.out al)
          refine hK.out _ _ (KpB.mk (HB10.out.mono hTw)) (fun hHn => ?_)
          clear hK K hHn
          try simp only [Act.put, List.setIfInBounds_toArray, List.set_cons_zero, List.set_cons_succ]
          have HX10 := Lib.hid (own_below HX.out HB10.out)
          have HN10 := Lib.hid (Ik.of_block (k := .i64) (l := [val]) (new_at (W := w9) rfl (.cells #[.int .i64 val] 3)))
          have hsz : T + 1 ≤ (w9.alloc (.cells #[.int .i64 val] 3)).heap.size := by simp; omega
          clear al
          refine K_step' (i := 9) (by kernel_rfl) rfl (fun K hK => ?_)
          refine step_io (by rfl) (.tmp 121) (.tmp 128) (by rfl) (T + 1) k _ ((celsM bs z).take k) (by simp [Act.eval, Act.put] <;> rfl) HX10.out w9.heap.size 0 1 1 [val] (by simp [Act.eval, Act.put] <;> rfl) rfl HN10.out (by omega) (by omega) hsz (k + 1) rfl ?_
          intro g9 c9 w10 hg9 hc9 ho10 hb10
          rw [← HV.out] at ho10
          have HO10 := Lib.hid ho10
          have HB11 := Lib.hid ((HB10.out.mono hTw).trans hb10)
          refine hK.out _ _ (KpB.mk HB11.out) (fun hHn => ?_)
          clear hK K hHn hb10 ho10 HX10 HN10 hsz
          try simp only [Act.put, List.setIfInBounds_toArray, List.set_cons_zero, List.set_cons_succ]
          have HCT := Lib.hid (HC.out.belowB (Nat.lt_succ_self T) HB11.out)
          have t0 := HCT.out.c 0 rfl
          have t1 := HCT.out.c 1 rfl
          have t2 := HCT.out.c 2 rfl
          have t3 := HCT.out.c 3 rfl
          have t4 := HCT.out.c 4 rfl
          have u0 := HCT.out.f 0 rfl
          have u1 := HCT.out.f 1 rfl
          have u2 := HCT.out.f 2 rfl
          have u3 := HCT.out.f 3 rfl
          have u4 := HCT.out.f 4 rfl
          have zt := HCT.out.1
          have hkL := KpB.mk HB11.out
          refine K_take' (i := 10) (v := ?_) rfl (by kernel_rfl) (by kernel_rfl) (by kernel_rfl) (by kernel_rfl) (fun _ _ _ h => h) (Or.inl ⟨by kernel_rfl, ?_⟩) hkL ?_
          rotate_left 1
          · intro W8 hSw
            clear hSw
            go_simp
            all_goals with_reducible rfl
          try simp only [Act.put, List.setIfInBounds_toArray, List.set_cons_zero, List.set_cons_succ]
          clear hkL hHeld
          refine K_step (by kernel_rfl) (by kernel_rfl) rfl (fun K hK => ?_)
          go_simp
          refine hK.out _ _ ?_
          clear hK K
          try simp only [Act.put, List.setIfInBounds_toArray, List.set_cons_zero, List.set_cons_succ]
          refine wpAny_done (by kernel_rfl) ?_ _
          go_wp2_with fail
          go_roundg (z - (k + 1))
          case measure => omega
          case rel =>
            have hC2 : Cl T (w10.setCell ⟨T, 3, none⟩ (.slice (some ⟨g9, 0, none⟩) (k + 1) c9)) [.int .i64 ev, .int .i64 ey, .int .i64 0, .slice (some ⟨g9, 0, none⟩) (k + 1) c9, .bool false] := HCT.out.set 3 (.slice (some ⟨g9, 0, none⟩) (k + 1) c9)
            have hB2 : Below m5.heap.size m5 (w10.setCell ⟨T, 3, none⟩ (.slice (some ⟨g9, 0, none⟩) (k + 1) c9)) := (HB5.out.trans (HB11.out.mono (by omega))).setCell (p := ⟨T, 3, none⟩) hT _
            exact ⟨k + 1, some ⟨g9, 0, none⟩, c9, by omega, by omega, by go_num, hc9, hC2, ownsRow_setCell_below HO10.out (Nat.lt_succ_self T) _, hB2⟩
        · obtain rfl : k = z := by omega
          have hXr := HX.out
          rw [show (celsM bs k).take k = celsM bs k by rw [List.take_of_length_le (by rw [celsM_len]; exact Nat.le_refl _)]] at hXr
          obtain ⟨hXi, hXf⟩ := Ik.of_own hXr
          have HXI := Lib.hid hXi
          have HXF := Lib.hid hXf
          have HXL0 : Hid (∀ b o, X = some ⟨b, o, none⟩ → b < wr.heap.size) := Lib.hid (fun b o e => own_lt hXr b (by rw [e]; rfl))
          have HPL := Lib.hid (HP5.out.below HB5.out)
          have HQL := Lib.hid (HQ5.out.below HB5.out)
          have HGL := Lib.hid (chain HG5.out HB5.out)
          have HOL := Lib.hid (own_below HO.out HB5.out)
          clear hXr hXi hXf HX HBY HR8 HBS
          have K60 := fun w h => rmeas60 ev ey 0 X k cx false (celsM bs k) w (celsM_len _ _) hkc h
          have hm1 : meaM (l.map MV.m) kk ⟨ev, ey, 0, celsM bs k, false⟩ = if mvB ⟨ev, ey, 0, celsM bs k, false⟩ = false then (l.map MV.m, 1) else if kk = ((l.map MV.m).length : Int) then (l.map MV.m ++ [⟨ev, ey, 0, celsM bs k, false⟩], 0) else ((l.map MV.m).set kk.toNat ⟨ev, ey, 0, celsM bs k, false⟩, 0) := by
            unfold meaM; rw [hlm', if_neg hrg]
          cases hmv : mvB ⟨ev, ey, 0, celsM bs k, false⟩
          · rw [hmv] at K60 hm1
            rw [if_pos rfl] at hm1
            have HMM := Lib.hid hm1
            replace K60 := Lib.hid K60
            clear hm1 hlm' hrg hmv
            have t0 := HC.out.c 0 rfl
            have t1 := HC.out.c 1 rfl
            have t2 := HC.out.c 2 rfl
            have t3 := HC.out.c 3 rfl
            have t4 := HC.out.c 4 rfl
            have zt := HC.out.1
            go_wp2_with fail
            refine (K60.out _ HXI.out).mono ?_
            rintro r w60 ⟨rfl, hb60⟩
            have HPX := Lib.hid (HPL.out.below hb60)
            have HQX := Lib.hid (HQL.out.below hb60)
            have HGX := Lib.hid (chain HGL.out hb60)
            have HOX := Lib.hid (own_below HOL.out hb60)
            have HCX := Lib.hid (HC.out.below hb60)
            have HXIX := Lib.hid (HXI.out.below hb60)
            have hT60 : T < w60.heap.size := HCX.out.1
            have HXL : Hid (∀ b o, X = some ⟨b, o, none⟩ → b < w60.heap.size) := Lib.hid (fun b o e => Nat.lt_of_lt_of_le (HXL0.out b o e) hb60.size)
            clear hb60 t0 t1 t2 t3 t4 zt HPL HQL HGL HOL HC HXI s4
            have p0 := HPX.out.c 0 rfl
            have p1 := HPX.out.c 1 rfl
            have p2 := HPX.out.c 2 rfl
            have p3 := HPX.out.c 3 rfl
            have p4 := HPX.out.c 4 rfl
            have q0 := HQX.out.c 0 rfl
            have q1 := HQX.out.c 1 rfl
            have q2 := HQX.out.c 2 rfl
            have q3 := HQX.out.c 3 rfl
            have q4 := HQX.out.c 4 rfl
            have f0 := HQX.out.f 0 rfl
            have f1 := HQX.out.f 1 rfl
            have f2 := HQX.out.f 2 rfl
            have f3 := HQX.out.f 3 rfl
            have f4 := HQX.out.f 4 rfl
            have zp := HPX.out.1
            have zq := HQX.out.1
            go_wp2_with fail
            refine bodyPost_ret (v := .tuple #[.agg #[.slice A n c, .slice A2 n2 c2, .int .i64 Ac, .int .i64 Pe, .slice A3 m c3], .slice A4 mm c4, .slice none 0 0, .int .i64 1]) (by simp [results, Try.results42, go_sem, q0, f0, q1, f1, q2, f2, q3, f3, q4, f4, zq] <;> first | rfl | ((repeat' apply And.intro) <;> rfl)) rfl (Or.inl ⟨?_, A, n, c, A2, n2, c2, Ac, Pe, A3, m, c3, .slice A4 mm c4, .slice none 0 0, ?_, below_set5 HGX.out (by omega) _ _ _ _ _⟩)
            · rw [HMR.out, HMM.out]; simp
            · rw [HMR.out, HMM.out]
          · rw [hmv] at K60 hm1
            rw [if_neg (by simp)] at hm1
            replace K60 := Lib.hid K60
            by_cases hkm : kk = (mm : Int)
            · have HMM : Hid (meaM (l.map MV.m) kk ⟨ev, ey, 0, celsM bs k, false⟩ = (l.map MV.m ++ [⟨ev, ey, 0, celsM bs k, false⟩], 0)) := Lib.hid (by rw [hm1, hlm', if_pos hkm])
              have d3 : decide (kk = (mm : Int)) = true := by simp [hkm]
              have d4 : (kk == (mm : Int)) = true := by simp [hkm]
              have HKM := Lib.hid hkm
              clear hm1 hlm' hrg hmv hkm
              have t0 := HC.out.c 0 rfl
              have t1 := HC.out.c 1 rfl
              have t2 := HC.out.c 2 rfl
              have t3 := HC.out.c 3 rfl
              have t4 := HC.out.c 4 rfl
              have zt := HC.out.1
              go_wp2_with fail
              refine (K60.out _ HXI.out).mono ?_
              rintro r w60 ⟨rfl, hb60⟩
              have HPX := Lib.hid (HPL.out.below hb60)
              have HQX := Lib.hid (HQL.out.below hb60)
              have HGX := Lib.hid (chain HGL.out hb60)
              have HOX := Lib.hid (own_below HOL.out hb60)
              have HCX := Lib.hid (HC.out.below hb60)
              have HXIX := Lib.hid (HXI.out.below hb60)
              have hT60 : T < w60.heap.size := HCX.out.1
              have HXL : Hid (∀ b o, X = some ⟨b, o, none⟩ → b < w60.heap.size) := Lib.hid (fun b o e => Nat.lt_of_lt_of_le (HXL0.out b o e) hb60.size)
              clear hb60 t0 t1 t2 t3 t4 zt HPL HQL HGL HOL HC HXI s4
              have al : Below w60.heap.size w60 (w60.alloc (.cells #[.int .i64 ev, .int .i64 ey, .int .i64 0, .slice X k cx, .bool false] 66)) := (Below.refl _ _).alloc (Nat.le_refl _) _
              have hn : ∀ j u, ([.int .i64 ev, .int .i64 ey, .int .i64 0, .slice X k cx, .bool false] : List Value)[j]? = some u → (w60.alloc (.cells #[.int .i64 ev, .int .i64 ey, .int .i64 0, .slice X k cx, .bool false] 66)).cell? ((⟨w60.heap.size, 0, none⟩ : Addr).add j) = some u := fun j u hj => cells_new rfl _ 66 j u hj
              have HN := Lib.hid hn
              have HOY := Lib.hid (own_below HOX.out al)
              have hm4u : m4.heap.size ≤ (w60.alloc (.cells #[.int .i64 ev, .int .i64 ey, .int .i64 0, .slice X k cx, .bool false] 66)).heap.size := by simp; omega
              have hAL := own_lt HO.out
              have hAG := own_ge HO.out
              have HAL := Lib.hid hAL
              have HAG := Lib.hid hAG
              have HALU := Lib.hid al
              clear hn al hAL hAG
              obtain ⟨i66, hi66, hz66, hz66', hz66''⟩ := info_parts info66
              have t0 := HCX.out.c 0 rfl
              have t1 := HCX.out.c 1 rfl
              have t2 := HCX.out.c 2 rfl
              have t3 := HCX.out.c 3 rfl
              have t4 := HCX.out.c 4 rfl
              have zt := HCX.out.1
              go_wp2_with (at_builtin; go_loud (refine wpList_append_lies _ rfl _ _ 45 rfl m4.heap.size 66 i66 (.agg #[.int .i64 0, .int .i64 0, .int .i64 0, .slice none 0 0, .bool false]) 5 56 Try.underlying45 hi66 hz66 hz66' hz66'' rfl (by decide) _ mm (flatM l) rfl HOY.out ⟨w60.heap.size, 0, none⟩ 1 1 [.int .i64 ev, .int .i64 ey, .int .i64 0, .slice X k cx, .bool false] rfl rfl HN.out (by intro u hu; simp only [List.mem_cons, List.not_mem_nil, or_false] at hu; rcases hu with rfl | rfl | rfl | rfl | rfl <;> rfl) (by omega) (by unfold maxLen; omega) (by omega) hm4u _ rfl ?_))
              intro g cg w70 ho70 hgr70 hlie hglX
              have hown : w70.ownsRow m4.heap.size 66 5 (.slice (some ⟨g, 0, none⟩) (mm + 1) cg) (mm + 1) (flatM (l ++ [(⟨⟨ev, ey, 0, celsM bs k, false⟩, X, cx⟩ : MV)])) := by
                rw [flatM_append, flatM_one]
                simp only [MV.vals, celsM_len]
                exact ho70
              have hgbX : m4.heap.size ≤ g := own_ge hown g rfl
              have hcapX : mm + 1 ≤ cg := by
                obtain ⟨_, _, hv, _, _, h, _⟩ := own_form hown (by omega)
                injection hv with _ _ hv; omega
              have HXG : Hid (∀ b o, X = some ⟨b, o, none⟩ → b ≠ g) := Lib.hid (fun b o e => by
                have h1 := HXF.out b o e
                rcases hlie with h | h
                · have := HAL.out g h; omega
                · obtain ⟨b', o', e', hlt, _⟩ : ∃ b' o', X = some ⟨b', o', none⟩ ∧ b' < w60.heap.size ∧ True := by
                    refine ⟨b, o, e, ?_, trivial⟩
                    exact HXL.out b o e
                  rw [e] at e'; injection e' with e'; injection e' with e1 _
                  rw [h]; simp; omega)
              have hPo : some w.heap.size ≠ (Value.slice An mm cn).ownBlock := fun e => by have := HAG.out _ e.symm; omega
              have hQo : some (w.heap.size + 1) ≠ (Value.slice An mm cn).ownBlock := fun e => by have := HAG.out _ e.symm; omega
              have hTo : some T ≠ (Value.slice An mm cn).ownBlock := fun e => by have := HAL.out _ e.symm; omega
              have HPY := Lib.hid (Cl.gb hgr70 (HPX.out.below HALU.out) hPo)
              have HQY := Lib.hid (Cl.gb hgr70 (HQX.out.below HALU.out) hQo)
              have HCY := Lib.hid (Cl.gb hgr70 (HCX.out.below HALU.out) hTo)
              have HXY := Lib.hid (Ik.gb hgr70 (HXIX.out.below HALU.out) (fun _ b o e he => by have := HXF.out b o e; have := HAL.out _ he.symm; omega))
              have HGY := Lib.hid ((chain HGX.out HALU.out).grown hgr70 (chain HGX.out HALU.out).size (fun q e => by have := HAG.out q e; omega))
              clear HOX HPX HQX HCX HXIX HGX hgr70 hlie ho70 HN HOY HALU t0 t1 t2 t3 t4 zt HXL
              have HPX := HPY
              have HQX := HQY
              have HCX := HCY
              have HXIX := HXY
              have HGX := HGY
              have HOX := Lib.hid hown
              clear HPY HQY HCY HXY HGY hown
              obtain ⟨xm, hxm⟩ : ∃ xm, xm = ((⟨⟨ev, ey, 0, celsM bs k, false⟩, X, cx⟩ : MV) : MV) := ⟨_, rfl⟩
              have HXM : Hid ((l ++ [(⟨⟨ev, ey, 0, celsM bs k, false⟩, X, cx⟩ : MV)])[mm]? = some xm) := Lib.hid (by rw [hxm, ← HLM.out]; simp)
              clear hxm
              have dk : kk = (mm : Int) := HKM.out
              subst dk
              have hmx : (mm : Int) < (mm : Int) + 1 := by omega
              have CG := own_cl HOX.out (by omega)
              obtain ⟨r0, e0⟩ := CG.2 (mm * 5) _ ((flatM_get _ mm xm HXM.out 0 (by omega)).trans rfl)
              obtain ⟨r1, e1⟩ := CG.2 (mm * 5 + 1) _ ((flatM_get _ mm xm HXM.out 1 (by omega)).trans rfl)
              obtain ⟨r2, e2⟩ := CG.2 (mm * 5 + 2) _ ((flatM_get _ mm xm HXM.out 2 (by omega)).trans rfl)
              obtain ⟨r3, e3⟩ := CG.2 (mm * 5 + 3) _ ((flatM_get _ mm xm HXM.out 3 (by omega)).trans rfl)
              obtain ⟨r4, e4⟩ := CG.2 (mm * 5 + 4) _ ((flatM_get _ mm xm HXM.out 4 (by omega)).trans rfl)
              clear CG
              have t0 := HCX.out.c 0 rfl
              have t1 := HCX.out.c 1 rfl
              have t2 := HCX.out.c 2 rfl
              have t3 := HCX.out.c 3 rfl
              have t4 := HCX.out.c 4 rfl
              have zt := HCX.out.1
              have hgX : g < w70.heap.size := hglX
              go_upto_region 30 with fail
              clear r0 r1 r2 r3 r4 e0 e1 e2 e3 e4 t0 t1 t2 t3 t4 zt
              obtain ⟨wc, hwc⟩ : ∃ wc, wc = (((((w70.setCell ⟨g, mm * 5, none⟩ (.int .i64 ev)).setCell ⟨g, mm * 5 + 1, none⟩ (.int .i64 ey)).setCell ⟨g, mm * 5 + 2, none⟩ (.int .i64 0)).setCell ⟨g, mm * 5 + 3, none⟩ (.slice X k cx)).setCell ⟨g, mm * 5 + 4, none⟩ (.bool false)) := ⟨_, rfl⟩
              have hoc : wc.ownsRow m4.heap.size 66 5 (.slice (some ⟨g, 0, none⟩) (mm + 1) cg) (mm + 1) (flatM ((l ++ [(⟨⟨ev, ey, 0, celsM bs k, false⟩, X, cx⟩ : MV)]).set mm ⟨⟨ev, ey, 0, celsM bs k, false⟩, X, cx⟩)) := by
                rw [hwc]
                exact own_put5 HOX.out HXM.out (by omega) (by simp [HLM.out]; try omega) ⟨⟨ev, ey, 0, celsM bs k, false⟩, X, cx⟩ k (celsM_len _ _)
              have GBc : w70.grownBy wc (some g) := by rw [hwc]; exact GB.set (GB.set (GB.set (GB.set (GB.set (GB.refl _ _) _ _) _ _) _ _) _ _) _ _
              rw [← hwc]
              have hgm4 : m4.heap.size ≤ g := hgbX
              have HPC := Lib.hid (Cl.gb GBc HPX.out (fun e => by injection e with e; omega))
              have HQC := Lib.hid (Cl.gb GBc HQX.out (fun e => by injection e with e; omega))
              have HGC := Lib.hid (HGX.out.grown GBc HGX.out.size (fun q e => by injection e with e; omega))
              have HXc := Lib.hid (Ik.gb GBc HXIX.out (fun _ b o e he => by injection he with he; exact HXG.out b o e he))
              have HOC := Lib.hid hoc
              clear hwc hoc GBc HPX HQX HGX HCX HXIX HOX
              have p0 := HPC.out.c 0 rfl
              have p1 := HPC.out.c 1 rfl
              have p2 := HPC.out.c 2 rfl
              have p3 := HPC.out.c 3 rfl
              have p4 := HPC.out.c 4 rfl
              have q0 := HQC.out.c 0 rfl
              have q1 := HQC.out.c 1 rfl
              have q2 := HQC.out.c 2 rfl
              have q3 := HQC.out.c 3 rfl
              have q4 := HQC.out.c 4 rfl
              have f0 := HQC.out.f 0 rfl
              have f1 := HQC.out.f 1 rfl
              have f2 := HQC.out.f 2 rfl
              have f3 := HQC.out.f 3 rfl
              have f4 := HQC.out.f 4 rfl
              have zp := HPC.out.1
              have zq := HQC.out.1
              go_wp2_with fail
              refine bodyPost_ret (v := .tuple #[.agg #[.slice A n c, .slice A2 n2 c2, .int .i64 Ac, .int .i64 Pe, .slice A3 m c3], .slice (some ⟨g, 0, none⟩) (mm + 1) cg, .slice none 0 0, .int .i64 0]) (by simp [results, Try.results42, go_sem, q0, f0, q1, f1, q2, f2, q3, f3, q4, f4, zq] <;> first | rfl | ((repeat' apply And.intro) <;> rfl)) rfl (Or.inr ⟨?_, some ⟨g, 0, none⟩, cg, ?_, ?_, below_set5 HGC.out (by omega) _ _ _ _ _⟩)
              · rw [HMR.out, HMM.out]
              · rw [HMR.out, HMM.out]; simp [HLM.out]
              · rw [HMR.out, HMM.out]
                refine ⟨_, ?_, ?_, (own_cv HOC.out).far5 (fun b o e => by injection e with e; injection e with e _; omega) _ _ _ _ _, ?_, ?_⟩
                · rw [set_last l _ mm HLM.out]; simp
                · simp only [List.length_append, List.length_set, List.length_map, HLM.out, List.length_cons, List.length_nil]; omega
                · intro _ b o e hb
                  injection e with e; injection e with e _
                  have := HSW.out b hb; omega
                · intro z' hz'
                  rw [set_last l _ mm HLM.out] at hz'
                  rcases List.mem_append.1 hz' with h | h
                  rotate_left 1
                  · obtain rfl : z' = (⟨⟨ev, ey, 0, celsM bs k, false⟩, X, cx⟩ : MV) := by simpa using h
                    exact ⟨by rw [celsM_len]; exact hkc, HXc.out.fr5 (P := w.heap.size + 1) HXF.out (by omega) _ _ _ _ _, fun _ b o e hs => by have := HSW.out _ hs; have := HXF.out b o e; omega⟩
                  · exact HMS.out.below (below_set5 HGC.out (by omega) _ _ _ _ _) z' h
            · obtain ⟨a, rfl⟩ : ∃ a : Nat, kk = a := ⟨kk.toNat, by omega⟩
              have ha : a < mm := by omega
              have HMM : Hid (meaM (l.map MV.m) (a : Int) ⟨ev, ey, 0, celsM bs k, false⟩ = ((l.map MV.m).set a ⟨ev, ey, 0, celsM bs k, false⟩, 0)) := Lib.hid (by rw [hm1, hlm', if_neg hkm, Int.toNat_natCast])
              have d3 : decide ((a : Int) = (mm : Int)) = false := by simp [hkm]
              have d4 : ((a : Int) == (mm : Int)) = false := by simp [hkm]
              have hla : a < l.length := by rw [HLM.out]; exact ha
              obtain ⟨xm, hxm⟩ : ∃ xm, l[a]? = some xm := ⟨_, List.getElem?_eq_getElem hla⟩
              have HXM := Lib.hid hxm
              obtain ⟨g, cg, hv, hgbX, hgm5, hcapX, _, _⟩ := own_form HO.out (by omega)
              injection hv with hv _ hcc
              subst hv
              subst hcc
              have HXG : Hid (∀ b o, X = some ⟨b, o, none⟩ → b ≠ g) := Lib.hid (fun b o e => by have := HXF.out b o e; omega)
              have ham : (a : Int) < (mm : Int) := by omega
              clear hm1 hlm' hrg hmv hkm hxm
              have t0 := HC.out.c 0 rfl
              have t1 := HC.out.c 1 rfl
              have t2 := HC.out.c 2 rfl
              have t3 := HC.out.c 3 rfl
              have t4 := HC.out.c 4 rfl
              have zt := HC.out.1
              go_wp2_with fail
              refine (K60.out _ HXI.out).mono ?_
              rintro r w60 ⟨rfl, hb60⟩
              have HPX := Lib.hid (HPL.out.below hb60)
              have HQX := Lib.hid (HQL.out.below hb60)
              have HGX := Lib.hid (chain HGL.out hb60)
              have HOX := Lib.hid (own_below HOL.out hb60)
              have HCX := Lib.hid (HC.out.below hb60)
              have HXIX := Lib.hid (HXI.out.below hb60)
              have hT60 : T < w60.heap.size := HCX.out.1
              have HXL : Hid (∀ b o, X = some ⟨b, o, none⟩ → b < w60.heap.size) := Lib.hid (fun b o e => Nat.lt_of_lt_of_le (HXL0.out b o e) hb60.size)
              clear hb60 t0 t1 t2 t3 t4 zt HPL HQL HGL HOL HC HXI s4
              have hglX : g < w60.heap.size := by have := HPX.out.1; have := hT60; omega
              have CG := own_cl HOX.out (by omega)
              obtain ⟨r0, e0⟩ := CG.2 (a * 5) _ ((flatM_get _ a xm HXM.out 0 (by omega)).trans rfl)
              obtain ⟨r1, e1⟩ := CG.2 (a * 5 + 1) _ ((flatM_get _ a xm HXM.out 1 (by omega)).trans rfl)
              obtain ⟨r2, e2⟩ := CG.2 (a * 5 + 2) _ ((flatM_get _ a xm HXM.out 2 (by omega)).trans rfl)
              obtain ⟨r3, e3⟩ := CG.2 (a * 5 + 3) _ ((flatM_get _ a xm HXM.out 3 (by omega)).trans rfl)
              obtain ⟨r4, e4⟩ := CG.2 (a * 5 + 4) _ ((flatM_get _ a xm HXM.out 4 (by omega)).trans rfl)
              clear CG
              have t0 := HCX.out.c 0 rfl
              have t1 := HCX.out.c 1 rfl
              have t2 := HCX.out.c 2 rfl
              have t3 := HCX.out.c 3 rfl
              have t4 := HCX.out.c 4 rfl
              have zt := HCX.out.1
              have hgX : g < w60.heap.size := hglX
              go_upto_region 30 with fail
              clear r0 r1 r2 r3 r4 e0 e1 e2 e3 e4 t0 t1 t2 t3 t4 zt
              obtain ⟨wc, hwc⟩ : ∃ wc, wc = (((((w60.setCell ⟨g, a * 5, none⟩ (.int .i64 ev)).setCell ⟨g, a * 5 + 1, none⟩ (.int .i64 ey)).setCell ⟨g, a * 5 + 2, none⟩ (.int .i64 0)).setCell ⟨g, a * 5 + 3, none⟩ (.slice X k cx)).setCell ⟨g, a * 5 + 4, none⟩ (.bool false)) := ⟨_, rfl⟩
              have hoc : wc.ownsRow m4.heap.size 66 5 (.slice (some ⟨g, 0, none⟩) mm cn) mm (flatM ((l).set a ⟨⟨ev, ey, 0, celsM bs k, false⟩, X, cx⟩)) := by
                rw [hwc]
                exact own_put5 HOX.out HXM.out (by omega) (by simp [HLM.out]; try omega) ⟨⟨ev, ey, 0, celsM bs k, false⟩, X, cx⟩ k (celsM_len _ _)
              have GBc : w60.grownBy wc (some g) := by rw [hwc]; exact GB.set (GB.set (GB.set (GB.set (GB.set (GB.refl _ _) _ _) _ _) _ _) _ _) _ _
              rw [← hwc]
              have hgm4 : m4.heap.size ≤ g := hgbX
              have HPC := Lib.hid (Cl.gb GBc HPX.out (fun e => by injection e with e; omega))
              have HQC := Lib.hid (Cl.gb GBc HQX.out (fun e => by injection e with e; omega))
              have HGC := Lib.hid (HGX.out.grown GBc HGX.out.size (fun q e => by injection e with e; omega))
              have HXc := Lib.hid (Ik.gb GBc HXIX.out (fun _ b o e he => by injection he with he; exact HXG.out b o e he))
              have HOC := Lib.hid hoc
              clear hwc hoc GBc HPX HQX HGX HCX HXIX HOX
              have p0 := HPC.out.c 0 rfl
              have p1 := HPC.out.c 1 rfl
              have p2 := HPC.out.c 2 rfl
              have p3 := HPC.out.c 3 rfl
              have p4 := HPC.out.c 4 rfl
              have q0 := HQC.out.c 0 rfl
              have q1 := HQC.out.c 1 rfl
              have q2 := HQC.out.c 2 rfl
              have q3 := HQC.out.c 3 rfl
              have q4 := HQC.out.c 4 rfl
              have f0 := HQC.out.f 0 rfl
              have f1 := HQC.out.f 1 rfl
              have f2 := HQC.out.f 2 rfl
              have f3 := HQC.out.f 3 rfl
              have f4 := HQC.out.f 4 rfl
              have zp := HPC.out.1
              have zq := HQC.out.1
              go_wp2_with fail
              refine bodyPost_ret (v := .tuple #[.agg #[.slice A n c, .slice A2 n2 c2, .int .i64 Ac, .int .i64 Pe, .slice A3 m c3], .slice (some ⟨g, 0, none⟩) mm cn, .slice none 0 0, .int .i64 0]) (by simp [results, Try.results42, go_sem, q0, f0, q1, f1, q2, f2, q3, f3, q4, f4, zq] <;> first | rfl | ((repeat' apply And.intro) <;> rfl)) rfl (Or.inr ⟨?_, some ⟨g, 0, none⟩, cn, ?_, ?_, below_set5 HGC.out (by omega) _ _ _ _ _⟩)
              · rw [HMR.out, HMM.out]
              · rw [HMR.out, HMM.out]; simp [HLM.out]
              · rw [HMR.out, HMM.out]
                refine ⟨_, ?_, ?_, (own_cv HOC.out).far5 (fun b o e => by injection e with e; injection e with e _; omega) _ _ _ _ _, ?_, ?_⟩
                · rw [map_set_m]
                · simp only [List.length_append, List.length_set, List.length_map, HLM.out, List.length_cons, List.length_nil]; omega
                · intro _ b o e hb
                  injection e with e; injection e with e _
                  have := HSW.out b hb; omega
                · intro z' hz'
                  rcases List.mem_or_eq_of_mem_set hz' with h | rfl
                  · exact HMS.out.below (below_set5 HGC.out (by omega) _ _ _ _ _) z' h
                  · exact ⟨by rw [celsM_len]; exact hkc, HXc.out.fr5 (P := w.heap.size + 1) HXF.out (by omega) _ _ _ _ _, fun _ b o e hs => by have := HSW.out _ hs; have := HXF.out b o e; omega⟩
end Go.Proofs.Ytamajedopofcoaa
