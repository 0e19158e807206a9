/-
  The contract of the reference's command for a read. No condition but the slices' shape.
-/
import Derived.Test.YtamajedopofcoaaZR4A
set_option linter.unusedVariables false
set_option linter.unusedSimpArgs false
namespace Go.Proofs.Ytamajedopofcoaa
open Go.RowKit
set_option maxRecDepth 100000 in
set_option maxHeartbeats 16000000 in
theorem r42_read (A : Option Addr) (n c : Nat) (A2 : Option Addr) (n2 c2 : Nat) (Ac Pe : Int) (A3 : Option Addr) (m c3 : Nat) (R W : List Int) (ch : List (Int × Int)) (A4 : Option Addr) (mm c4 : Nat) (l : List MV) (b o c5 : Nat) (x y v er : Int) (w : World) (hl : R.length = n) (hb : Ik .i64 w A R) (hc : n ≤ c) (hl2 : W.length = n2) (hb2 : Ik .i64 w A2 W) (hc2 : n2 ≤ c2) (hl3 : ch.length = m) (hb3 : Ik .i64 w A3 (flat ch)) (hc3 : m ≤ c3) (hs : n ≤ 5000) (hs2 : n2 ≤ 5000) (hs3 : m ≤ 5000) (hlm : l.length = mm) (hcv : Cv w A4 (flatM l)) (hmo : Mo [] w l) (hcm : mm ≤ c4) (hv : vP R W Ac Pe ch = true) (hm8 : (decide (mm ≤ 8) && !l.any bV) = true) (K56 : ∀ w1, Below w.heap.size w w1 → Calls Try.prog 56 #[.slice (some ⟨b, o, none⟩) 3 c5] w1 fun r w' => r = .returned (.bool true) ∧ w1 = w') (h0 : w.cell? ⟨b, o, none⟩ = some (.int .u8 1)) (hbl : b < w.heap.size) (hc5 : 3 ≤ c5) (h1 : w.cell? ⟨b, o + 1, none⟩ = some (.int .u8 x)) (h2 : w.cell? ⟨b, o + 1 + 1, none⟩ = some (.int .u8 y)) (x0 : 0 ≤ x) (x1 : x ≤ 255) (y0 : 0 ≤ y) (y1 : y ≤ 255) (v0 : -9223372036854775808 ≤ v) (v1 : v ≤ 9223372036854775807) (hr : readM ⟨R, W, Ac, Pe, ch⟩ (x * 256 + y) = (v, er)) : Calls Try.prog 42 #[.agg #[.slice A n c, .slice A2 n2 c2, .int .i64 Ac, .int .i64 Pe, .slice A3 m c3], .slice A4 mm c4, .slice (some ⟨b, o, none⟩) 3 c5] w fun r w' => ∃ B cB, r = .returned (.tuple #[.agg #[.slice A n c, .slice A2 n2 c2, .int .i64 Ac, .int .i64 Pe, .slice A3 m c3], .slice A4 mm c4, .slice B 8 cB, .int .i64 er]) ∧ 8 ≤ cB ∧ Ik .u8 w' B (byts v) ∧ Fr w.heap.size B ∧ Below w.heap.size w w' := by
  have KR := fun w h h2 h3 => rread14 A n c A2 n2 c2 Ac Pe A3 m c3 R W ch (x * 256 + y) w hl h hc hl2 h2 hc2 hl3 h3 hc3 hs hs2 hs3
  rw [hr] at KR
  have KI := fun w h h' => rindex57 b (o + 1) 2 (c5 - 1) x y w (Nat.le_refl _) (by omega) h h' x0 x1 y0 y1
  have KB := fun w => rbytes58 v w v0 v1
  replace KR := Lib.hid KR
  replace KI := Lib.hid KI
  replace KB := Lib.hid KB
  have KV := fun w h h2 h3 => rvalid12 A n c A2 n2 c2 Ac Pe A3 m c3 R W ch w hl h hc hl2 h2 hc2 hl3 h3 hc3 hs hs2 hs3
  rw [hv] at KV
  replace KV := Lib.hid KV
  have KM := fun w h h' => rmeas55 A4 mm c4 l w hlm h h' hcm
  rw [hm8] at KM
  replace KM := Lib.hid KM
  have HCV := Lib.hid hcv
  have HMO := Lib.hid hmo
  have HB1 := Lib.hid hb
  have HB2 := Lib.hid hb2
  have HB3 := Lib.hid hb3
  have HP0 := Lib.hid ((Cl.new (w := w) rfl [.slice A n c, .slice A2 n2 c2, .int .i64 Ac, .int .i64 Pe, .slice A3 m c3] 25).below ((Below.refl _ _).alloc (Nat.le_refl _) (.cells #[.slice none 0 0, .slice none 0 0, .int .i64 0, .int .i64 0, .slice none 0 0] 25)))
  have HQ0 := Lib.hid (Cl.new (P := w.heap.size + 1) (w := w.alloc (.cells #[.slice A n c, .slice A2 n2 c2, .int .i64 Ac, .int .i64 Pe, .slice A3 m c3] 25)) (by simp) [.slice none 0 0, .slice none 0 0, .int .i64 0, .int .i64 0, .slice none 0 0] 25)
  have HG0 := Lib.hid (show Below w.heap.size w ((w.alloc (.cells #[.slice A n c, .slice A2 n2 c2, .int .i64 Ac, .int .i64 Pe, .slice A3 m c3] 25)).alloc (.cells #[.slice none 0 0, .slice none 0 0, .int .i64 0, .int .i64 0, .slice none 0 0] 25)) by go_grown)
  replace K56 := Lib.hid K56
  clear hl hl2 hl3 hb hb2 hb3 hlm hcv hmo hm8 hr
  go_enter Try.func42, Try.ntmps42
  have p0 := HP0.out.c 0 rfl
  have p1 := HP0.out.c 1 rfl
  have p2 := HP0.out.c 2 rfl
  have p3 := HP0.out.c 3 rfl
  have p4 := HP0.out.c 4 rfl
  have zp := HP0.out.1
  go_wp2_with fail
  refine (KV.out _ (HB1.out.below HG0.out) (HB2.out.below HG0.out) (HB3.out.below HG0.out)).mono ?_
  rintro r w1 ⟨rfl, hbw1⟩
  have HP1 := Lib.hid (HP0.out.below hbw1)
  have HQ1 := Lib.hid (HQ0.out.below hbw1)
  have HG1 := Lib.hid (chain HG0.out hbw1)
  clear hbw1 HP0 HQ0 HG0
  clear p0 p1 p2 p3 p4 zp KV
  go_wp2_with fail
  refine (KM.out _ (HCV.out.below HG1.out) (HMO.out.below HG1.out)).mono ?_
  rintro r m5 ⟨rfl, hbm5⟩
  have HP5 := Lib.hid (HP1.out.below hbm5)
  have HQ5 := Lib.hid (HQ1.out.below hbm5)
  have HG5 := Lib.hid (chain HG1.out hbm5)
  clear hbm5 HP1 HQ1 HG1
  clear KM
  go_wp2_with fail
  refine (K56.out _ HG5.out).mono ?_
  rintro r w3 ⟨rfl, rfl⟩
  have hb5 : b < m5.heap.size := by have := HG5.out.size; omega
  have hPm : w.heap.size < m5.heap.size := HP5.out.1
  have hm2 : w.heap.size + 2 ≤ m5.heap.size := HQ5.out.1
  have s1 : m5.cell? ⟨b, o, none⟩ = some (.int .u8 1) := ((bcell HG5.out).1 b _ hbl).trans h0
  have s2 : m5.cell? ⟨b, o + 1, none⟩ = some (.int .u8 x) := ((bcell HG5.out).1 b _ hbl).trans h1
  have s3 : m5.cell? ⟨b, o + 1 + 1, none⟩ = some (.int .u8 y) := ((bcell HG5.out).1 b _ hbl).trans h2
  clear h0 h1 h2
  go_upto_region 7 with fail
  have f1 : (1 : Int) ≤ (3 : Int) := by decide
  have f2 : ¬ (c5 = 1) := by omega
  have p0 := HP5.out.c 0 rfl
  have p1 := HP5.out.c 1 rfl
  have p2 := HP5.out.c 2 rfl
  have p3 := HP5.out.c 3 rfl
  have p4 := HP5.out.c 4 rfl
  refine region_K (fun W' => (∀ b o, b < m5.heap.size → W'.cell? ⟨b, o, none⟩ = m5.cell? ⟨b, o, none⟩) ∧ Below m5.heap.size m5 W') 4 (by kernel_rfl) (Kp.mk (Below.refl _ _).drew) (fun hHeld => ?_)
  refine K_take' (i := 1) (v := ?_) rfl (by kernel_rfl) (by kernel_rfl) (by kernel_rfl) (by kernel_rfl) (fun _ _ _ h => h) (Or.inl ⟨by kernel_rfl, ?_⟩) hHeld ?_
  rotate_left 1
  · intro W8 hSw
    clear hSw
    go_simp
    all_goals with_reducible rfl
  try simp only [Act.put, List.setIfInBounds_toArray, List.set_cons_zero, List.set_cons_succ]
  refine K_take' (i := 2) (v := ?_) rfl (by kernel_rfl) (by kernel_rfl) (by kernel_rfl) (by kernel_rfl) (fun _ _ _ h => h) (Or.inl ⟨by kernel_rfl, ?_⟩) hHeld ?_
  rotate_left 1
  · intro W8 hSw
    clear hSw
    go_simp
    all_goals with_reducible rfl
  try simp only [Act.put, List.setIfInBounds_toArray, List.set_cons_zero, List.set_cons_succ]
  refine K_take (i := 0) (v := ?_) rfl (by kernel_rfl) (by kernel_rfl) (by kernel_rfl) (by kernel_rfl) (by kernel_rfl) (fun _ _ _ h => h) (Or.inl ⟨by kernel_rfl, ?_⟩) hHeld ?_
  rotate_left 1
  · intro W8 hSw
    (try dsimp only at hSw)
    go_simp
    all_goals with_reducible rfl
  try simp only [Act.put, List.setIfInBounds_toArray, List.set_cons_zero, List.set_cons_succ]
  refine K_step' (i := 3) (by kernel_rfl) rfl (fun K hK => ?_)
  go_simp
  refine (KI.out _ ((hHeld.1 b _ hb5).trans s2) ((hHeld.1 b _ hb5).trans s3)).mono ?_
  rintro r w9 ⟨rfl, hb9⟩
  have hKp9 := Kp.next hHeld hb9
  refine hK.out _ _ hKp9 (fun hH1 => ?_)
  clear hK K
  try simp only [Act.put, List.setIfInBounds_toArray, List.set_cons_zero, List.set_cons_succ]
  refine K_step (by kernel_rfl) (by kernel_rfl) rfl (fun K hK => ?_)
  go_simp
  refine (KR.out _ ((HB1.out.below HG5.out).below hKp9.2) ((HB2.out.below HG5.out).below hKp9.2) ((HB3.out.below HG5.out).below hKp9.2)).mono ?_
  rintro r w10 ⟨rfl, hb10⟩
  have hKp10 := Kp.next hKp9 hb10
  refine hK.out _ _ ?_
  clear hK K
  try simp only [Act.put, List.setIfInBounds_toArray, List.set_cons_zero, List.set_cons_succ]
  refine wpAny_take (i := 5) (v := ?_) rfl (by kernel_rfl) (by kernel_rfl) (by kernel_rfl) (fun _ _ _ h => h) (Or.inl ⟨by kernel_rfl, ?_⟩) ?_
  rotate_left 1
  · intro W8
    go_simp
    all_goals with_reducible rfl
  try simp only [Act.put, List.setIfInBounds_toArray, List.set_cons_zero, List.set_cons_succ]
  refine wpAny_take (i := 6) (v := ?_) rfl (by kernel_rfl) (by kernel_rfl) (by kernel_rfl) (fun _ _ _ h => h) (Or.inl ⟨by kernel_rfl, ?_⟩) ?_
  rotate_left 1
  · intro W8
    go_simp
    all_goals with_reducible rfl
  try simp only [Act.put, List.setIfInBounds_toArray, List.set_cons_zero, List.set_cons_succ]
  refine wpAny_take (i := 7) (v := ?_) rfl (by kernel_rfl) (by kernel_rfl) (by kernel_rfl) (fun _ _ _ h => h) (Or.inl ⟨by kernel_rfl, ?_⟩) ?_
  rotate_left 1
  · intro W8
    go_simp
    all_goals with_reducible rfl
  try simp only [Act.put, List.setIfInBounds_toArray, List.set_cons_zero, List.set_cons_succ]
  refine wpAny_ready (rs := [8]) (by kernel_rfl) (by simp) (AllReady.cons rfl (fun K hK => ?_) AllReady.nil)
  go_simp
  refine hK _ _ ?_
  clear hK K
  try simp only [Act.put, List.setIfInBounds_toArray, List.set_cons_zero, List.set_cons_succ]
  refine wpAny_ready (rs := [9]) (by kernel_rfl) (by simp) (AllReady.cons rfl (fun K hK => ?_) AllReady.nil)
  go_simp
  refine hK _ _ ?_
  clear hK K
  try simp only [Act.put, List.setIfInBounds_toArray, List.set_cons_zero, List.set_cons_succ]
  refine wpAny_done (by kernel_rfl) ?_ _
  have HP10 := Lib.hid (HP5.out.below hKp10.2)
  have HQ10 := Lib.hid (HQ5.out.below hKp10.2)
  have HG10 := Lib.hid (chain HG5.out hKp10.2)
  clear p0 p1 p2 p3 p4 hKp9 hKp10 hHeld hH1 hb9 hb10 s1 s2 s3 HP5 HQ5 HG5 HB1 HB2 HB3 KR KI
  go_upto_region 8 with fail
  have p0 := HP10.out.c 0 rfl
  have p1 := HP10.out.c 1 rfl
  have p2 := HP10.out.c 2 rfl
  have p3 := HP10.out.c 3 rfl
  have p4 := HP10.out.c 4 rfl
  have zp := HP10.out.1
  refine region_K (fun W' => (∀ b o, b < w10.heap.size → W'.cell? ⟨b, o, none⟩ = w10.cell? ⟨b, o, none⟩) ∧ Below w10.heap.size w10 W') 5 (by kernel_rfl) (Kp.mk (Below.refl _ _).drew) (fun hHeld => ?_)
  refine K_take' (i := 1) (v := ?_) rfl (by kernel_rfl) (by kernel_rfl) (by kernel_rfl) (by kernel_rfl) (fun _ _ _ h => h) (Or.inl ⟨by kernel_rfl, ?_⟩) hHeld ?_
  rotate_left 1
  · intro W8 hSw
    clear hSw
    go_simp
    all_goals with_reducible rfl
  try simp only [Act.put, List.setIfInBounds_toArray, List.set_cons_zero, List.set_cons_succ]
  refine K_take' (i := 2) (v := ?_) rfl (by kernel_rfl) (by kernel_rfl) (by kernel_rfl) (by kernel_rfl) (fun _ _ _ h => h) (Or.inl ⟨by kernel_rfl, ?_⟩) hHeld ?_
  rotate_left 1
  · intro W8 hSw
    clear hSw
    go_simp
    all_goals with_reducible rfl
  try simp only [Act.put, List.setIfInBounds_toArray, List.set_cons_zero, List.set_cons_succ]
  refine K_take' (i := 4) (v := ?_) rfl (by kernel_rfl) (by kernel_rfl) (by kernel_rfl) (by kernel_rfl) (fun _ _ _ h => h) (Or.inl ⟨by kernel_rfl, ?_⟩) hHeld ?_
  rotate_left 1
  · intro W8 hSw
    clear hSw
    go_simp
    all_goals with_reducible rfl
  try simp only [Act.put, List.setIfInBounds_toArray, List.set_cons_zero, List.set_cons_succ]
  refine K_take (i := 0) (v := ?_) rfl (by kernel_rfl) (by kernel_rfl) (by kernel_rfl) (by kernel_rfl) (by kernel_rfl) (fun _ _ _ h => h) (Or.inl ⟨by kernel_rfl, ?_⟩) hHeld ?_
  rotate_left 1
  · intro W8 hSw
    (try dsimp only at hSw)
    go_simp
    all_goals with_reducible rfl
  try simp only [Act.put, List.setIfInBounds_toArray, List.set_cons_zero, List.set_cons_succ]
  refine K_step' (i := 3) (by kernel_rfl) rfl (fun K hK => ?_)
  go_simp
  refine (KB.out _).mono ?_
  rintro r w11 ⟨vb, rfl, hOb, hb11⟩
  obtain ⟨Bb, cb, rfl, hcb, _, hib, hfb, hlb⟩ := own_bt hOb
  have hk11 := Kp.next hHeld hb11
  refine hK.out _ _ hk11 (fun hH2 => ?_)
  clear hK K hH2
  try simp only [Act.put, List.setIfInBounds_toArray, List.set_cons_zero, List.set_cons_succ]
  have HQ11 := Lib.hid (HQ10.out.below hk11.2)
  have HG11 := Lib.hid (chain HG10.out hk11.2)
  clear hk11 hHeld p0 p1 p2 p3 p4 zp
  have q0 := HQ11.out.c 0 rfl
  have q1 := HQ11.out.c 1 rfl
  have q2 := HQ11.out.c 2 rfl
  have q3 := HQ11.out.c 3 rfl
  have q4 := HQ11.out.c 4 rfl
  have f0 := HQ11.out.f 0 rfl
  have f1 := HQ11.out.f 1 rfl
  have f2 := HQ11.out.f 2 rfl
  have f3 := HQ11.out.f 3 rfl
  have f4 := HQ11.out.f 4 rfl
  have zq := HQ11.out.1
  refine K_step (by kernel_rfl) (by kernel_rfl) rfl (fun K hK => ?_)
  go_simp
  refine hK.out _ _ ?_
  clear hK K
  try simp only [Act.put, List.setIfInBounds_toArray, List.set_cons_zero, List.set_cons_succ]
  refine wpAny_ready (rs := [6]) (by kernel_rfl) (by simp) (AllReady.cons rfl (fun K hK => ?_) AllReady.nil)
  go_simp
  refine hK _ _ ?_
  clear hK K
  try simp only [Act.put, List.setIfInBounds_toArray, List.set_cons_zero, List.set_cons_succ]
  refine wpAny_ready (rs := [7]) (by kernel_rfl) (by simp) (AllReady.cons rfl (fun K hK => ?_) AllReady.nil)
  go_simp
  refine hK _ _ ?_
  clear hK K
  try simp only [Act.put, List.setIfInBounds_toArray, List.set_cons_zero, List.set_cons_succ]
  refine wpAny_ready (rs := [8]) (by kernel_rfl) (by simp) (AllReady.cons rfl (fun K hK => ?_) AllReady.nil)
  go_simp
  refine hK _ _ ?_
  clear hK K
  try simp only [Act.put, List.setIfInBounds_toArray, List.set_cons_zero, List.set_cons_succ]
  refine wpAny_done (by kernel_rfl) ?_ _
  have HIB := Lib.hid hib
  have hz10 : w.heap.size + 1 < w10.heap.size := HQ10.out.1
  have hfb' : Fr (w.heap.size + 1 + 1) Bb := fr_le hfb (by show w.heap.size + 1 + 1 ≤ w10.heap.size; omega)
  clear hib hfb hOb hb11 HP10 HQ10 HG10 KB
  go_wp2_with fail
  refine bodyPost_ret (v := .tuple #[.agg #[.slice A n c, .slice A2 n2 c2, .int .i64 Ac, .int .i64 Pe, .slice A3 m c3], .slice A4 mm c4, .slice Bb 8 cb, .int .i64 er]) (by simp [results, Try.results42, go_sem, q0, f0, q1, f1, q2, f2, q3, f3, q4, f4, zq] <;> first | rfl | ((repeat' apply And.intro) <;> rfl)) rfl ⟨Bb, cb, rfl, hcb, ?_, fr_le hfb' (by omega), below_set5 HG11.out (by omega) _ _ _ _ _⟩
  exact HIB.out.fr5 hfb' (by omega) _ _ _ _ _
end Go.Proofs.Ytamajedopofcoaa
