/-
  The law CalibratePages. No condition but the slices' shape.
-/
import Derived.Test.YtamajedopofcoaaAwk
import Derived.Test.YtamajedopofcoaaSame
set_option linter.unusedVariables false
set_option linter.unusedSimpArgs false
namespace Go.Proofs.Ytamajedopofcoaa
open Go.RowKit
theorem sz_new (l : List Int) (h : l.length ≤ 40) : (newM l).1.R.length ≤ 5000 ∧ (newM l).1.W.length ≤ 5000 ∧ (newM l).1.Ch.length ≤ 5000 := by
  unfold newM; split <;> simp [pz] <;> omega
theorem sz_wri (p : PG) (i x : Int) (h1 : p.R.length ≤ 40) (h2 : p.W.length ≤ 40) (h3 : p.Ch.length ≤ 120) : (wriM p i x).1.R.length ≤ 5000 ∧ (wriM p i x).1.W.length ≤ 5000 ∧ (wriM p i x).1.Ch.length ≤ 5000 := by
  unfold wriM; (repeat' split) <;> simp [pz] <;> omega
theorem sz_sel (p : PG) (g : Int) (h1 : p.R.length ≤ 40) (h2 : p.W.length ≤ 40) (h3 : p.Ch.length ≤ 120) : (selM p g).1.R.length ≤ 5000 ∧ (selM p g).1.W.length ≤ 5000 ∧ (selM p g).1.Ch.length ≤ 5000 := by
  unfold selM; (repeat' split) <;> simp [pz] <;> omega
theorem sz_com (p : PG) (h1 : p.R.length ≤ 40) (h2 : p.W.length ≤ 40) (h3 : p.Ch.length ≤ 120) : (comM p).1.R.length ≤ 5000 ∧ (comM p).1.W.length ≤ 5000 ∧ (comM p).1.Ch.length ≤ 5000 := by
  unfold comM; split <;> simp [pz, apC_len] <;> omega
set_option maxRecDepth 100000 in
set_option maxHeartbeats 16000000 in
theorem pages3_main (A : Option Addr) (n c : Nat) (A2 : Option Addr) (n2 c2 : Nat) (Ac Pe : Int) (A3 : Option Addr) (m c3 : Nat) (R W : List Int) (ch : List (Int × Int)) (A4 : Option Addr) (n4 c4 : Nat) (l : List Int) (i x g : Int) (w : World) (hl : R.length = n) (hb : Ik .i64 w A R) (hc : n ≤ c) (hl2 : W.length = n2) (hb2 : Ik .i64 w A2 W) (hc2 : n2 ≤ c2) (hl3 : ch.length = m) (hb3 : Ik .i64 w A3 (flat ch)) (hc3 : m ≤ c3) (hl4 : l.length = n4) (hb4 : Ik .i64 w A4 l) (hc4 : n4 ≤ c4) (hG : n ≤ 40 ∧ n2 ≤ 40 ∧ m ≤ 120 ∧ n4 ≤ 40) : Calls Try.prog 3 #[.agg #[.slice A n c, .slice A2 n2 c2, .int .i64 Ac, .int .i64 Pe, .slice A3 m c3], .slice A4 n4 c4, .int .i64 i, .int .i64 x, .int .i64 g] w fun r w' => r = .returned (.bool true) ∧ Below w.heap.size w w' := by
  have hs : n ≤ 5000 := by omega
  have hs2 : n2 ≤ 5000 := by omega
  have hs3 : m ≤ 5000 := by omega
  have hs4 : n4 ≤ 5000 := by omega
  obtain ⟨hq1, hq2, hq3⟩ := sz_new l (by omega)
  have K1N := fun w h => new8u A4 n4 c4 l w hl4 h hc4 hs4
  have K2N := fun w h => new9u A4 n4 c4 l w hl4 h hc4 hs4
  obtain ⟨MN, hM⟩ : ∃ M, M = newM l := ⟨_, rfl⟩
  rw [← hM] at K1N K2N hq1 hq2 hq3
  clear hM
  obtain ⟨⟨RN, WN, AcN, PeN, ChN⟩, eN⟩ := MN
  simp only at K1N K2N hq1 hq2 hq3
  have KSN := fun (X1 Y1 : Option Addr) (kx1 ky1 : Nat) (X2 Y2 : Option Addr) (kx2 ky2 : Nat) (X3 Y3 : Option Addr) (kx3 ky3 : Nat) w a1 b1 c1 d1 a2 b2 c2 d2 a3 b3 c3 d3 => same10 X1 Y1 RN.length kx1 ky1 X2 Y2 WN.length kx2 ky2 AcN PeN X3 Y3 ChN.length kx3 ky3 RN WN ChN w rfl a1 b1 c1 d1 rfl a2 b2 c2 d2 rfl a3 b3 c3 d3 hq1 hq2 hq3
  replace K1N := Lib.hid K1N
  replace K2N := Lib.hid K2N
  replace KSN := Lib.hid KSN
  clear hq1 hq2 hq3
  obtain ⟨hq1, hq2, hq3⟩ := sz_wri ⟨R, W, Ac, Pe, ch⟩ i x (by simp only; omega) (by simp only; omega) (by simp only; omega)
  have K1W := fun w h h2 h3 => wri15u A n c A2 n2 c2 Ac Pe A3 m c3 R W ch i x w hl h hc hl2 h2 hc2 hl3 h3 hc3 hs hs2 hs3
  have K2W := fun w h h2 h3 => wri16u A n c A2 n2 c2 Ac Pe A3 m c3 R W ch i x w hl h hc hl2 h2 hc2 hl3 h3 hc3 hs hs2 hs3
  obtain ⟨MW, hM⟩ : ∃ M, M = wriM ⟨R, W, Ac, Pe, ch⟩ i x := ⟨_, rfl⟩
  rw [← hM] at K1W K2W hq1 hq2 hq3
  clear hM
  obtain ⟨⟨RW, WW, AcW, PeW, ChW⟩, eW⟩ := MW
  simp only at K1W K2W hq1 hq2 hq3
  have KSW := fun (X1 Y1 : Option Addr) (kx1 ky1 : Nat) (X2 Y2 : Option Addr) (kx2 ky2 : Nat) (X3 Y3 : Option Addr) (kx3 ky3 : Nat) w a1 b1 c1 d1 a2 b2 c2 d2 a3 b3 c3 d3 => same10 X1 Y1 RW.length kx1 ky1 X2 Y2 WW.length kx2 ky2 AcW PeW X3 Y3 ChW.length kx3 ky3 RW WW ChW w rfl a1 b1 c1 d1 rfl a2 b2 c2 d2 rfl a3 b3 c3 d3 hq1 hq2 hq3
  replace K1W := Lib.hid K1W
  replace K2W := Lib.hid K2W
  replace KSW := Lib.hid KSW
  clear hq1 hq2 hq3
  obtain ⟨hq1, hq2, hq3⟩ := sz_sel ⟨R, W, Ac, Pe, ch⟩ g (by simp only; omega) (by simp only; omega) (by simp only; omega)
  have K1S := fun w h h2 h3 => sel17u A n c A2 n2 c2 Ac Pe A3 m c3 R W ch g w hl h hc hl2 h2 hc2 hl3 h3 hc3 hs hs2 hs3
  have K2S := fun w h h2 h3 => sel18u A n c A2 n2 c2 Ac Pe A3 m c3 R W ch g w hl h hc hl2 h2 hc2 hl3 h3 hc3 hs hs2 hs3
  obtain ⟨MS, hM⟩ : ∃ M, M = selM ⟨R, W, Ac, Pe, ch⟩ g := ⟨_, rfl⟩
  rw [← hM] at K1S K2S hq1 hq2 hq3
  clear hM
  obtain ⟨⟨RS, WS, AcS, PeS, ChS⟩, eS⟩ := MS
  simp only at K1S K2S hq1 hq2 hq3
  have KSS := fun (X1 Y1 : Option Addr) (kx1 ky1 : Nat) (X2 Y2 : Option Addr) (kx2 ky2 : Nat) (X3 Y3 : Option Addr) (kx3 ky3 : Nat) w a1 b1 c1 d1 a2 b2 c2 d2 a3 b3 c3 d3 => same10 X1 Y1 RS.length kx1 ky1 X2 Y2 WS.length kx2 ky2 AcS PeS X3 Y3 ChS.length kx3 ky3 RS WS ChS w rfl a1 b1 c1 d1 rfl a2 b2 c2 d2 rfl a3 b3 c3 d3 hq1 hq2 hq3
  replace K1S := Lib.hid K1S
  replace K2S := Lib.hid K2S
  replace KSS := Lib.hid KSS
  clear hq1 hq2 hq3
  obtain ⟨hq1, hq2, hq3⟩ := sz_com ⟨R, W, Ac, Pe, ch⟩ (by simp only; omega) (by simp only; omega) (by simp only; omega)
  have K1C := fun w h h2 h3 => com19u A n c A2 n2 c2 Ac Pe A3 m c3 R W ch  w hl h hc hl2 h2 hc2 hl3 h3 hc3 hs hs2 hs3
  have K2C := fun w h h2 h3 => com20u A n c A2 n2 c2 Ac Pe A3 m c3 R W ch  w hl h hc hl2 h2 hc2 hl3 h3 hc3 hs hs2 hs3
  obtain ⟨MC, hM⟩ : ∃ M, M = comM ⟨R, W, Ac, Pe, ch⟩ := ⟨_, rfl⟩
  rw [← hM] at K1C K2C hq1 hq2 hq3
  clear hM
  obtain ⟨⟨RC, WC, AcC, PeC, ChC⟩, eC⟩ := MC
  simp only at K1C K2C hq1 hq2 hq3
  have KSC := fun (X1 Y1 : Option Addr) (kx1 ky1 : Nat) (X2 Y2 : Option Addr) (kx2 ky2 : Nat) (X3 Y3 : Option Addr) (kx3 ky3 : Nat) w a1 b1 c1 d1 a2 b2 c2 d2 a3 b3 c3 d3 => same10 X1 Y1 RC.length kx1 ky1 X2 Y2 WC.length kx2 ky2 AcC PeC X3 Y3 ChC.length kx3 ky3 RC WC ChC w rfl a1 b1 c1 d1 rfl a2 b2 c2 d2 rfl a3 b3 c3 d3 hq1 hq2 hq3
  replace K1C := Lib.hid K1C
  replace K2C := Lib.hid K2C
  replace KSC := Lib.hid KSC
  clear hq1 hq2 hq3
  have KR1 := fun w h h2 h3 => read13 A n c A2 n2 c2 Ac Pe A3 m c3 R W ch i w hl h hc hl2 h2 hc2 hl3 h3 hc3 hs hs2 hs3
  have KR2 := fun w h h2 h3 => rread14 A n c A2 n2 c2 Ac Pe A3 m c3 R W ch i w hl h hc hl2 h2 hc2 hl3 h3 hc3 hs hs2 hs3
  obtain ⟨MR, hM⟩ : ∃ M, M = readM ⟨R, W, Ac, Pe, ch⟩ i := ⟨_, rfl⟩
  rw [← hM] at KR1 KR2
  clear hM
  obtain ⟨xr, er⟩ := MR
  simp only at KR1 KR2
  have KV1 := fun w h h2 h3 => valid11 A n c A2 n2 c2 Ac Pe A3 m c3 R W ch w hl h hc hl2 h2 hc2 hl3 h3 hc3 hs hs2 hs3
  have KV2 := fun w h h2 h3 => rvalid12 A n c A2 n2 c2 Ac Pe A3 m c3 R W ch w hl h hc hl2 h2 hc2 hl3 h3 hc3 hs hs2 hs3
  generalize vP R W Ac Pe ch = vb at KV1 KV2
  replace KR1 := Lib.hid KR1
  replace KR2 := Lib.hid KR2
  replace KV1 := Lib.hid KV1
  replace KV2 := Lib.hid KV2
  have HB1 := Lib.hid hb
  have HB2 := Lib.hid hb2
  have HB3 := Lib.hid hb3
  have HB4 := Lib.hid hb4
  have d4 : decide (40 < (n4 : Int)) = false := by simp; omega
  have HP0 := Lib.hid (Cl.new (w := w) rfl [.slice A n c, .slice A2 n2 c2, .int .i64 Ac, .int .i64 Pe, .slice A3 m c3] 25)
  have HG0 := Lib.hid (show Below w.heap.size w (w.alloc (.cells #[.slice A n c, .slice A2 n2 c2, .int .i64 Ac, .int .i64 Pe, .slice A3 m c3] 25)) from (Below.refl _ _).alloc (Nat.le_refl _) _)
  have K7 := fun w => great7 A n c A2 n2 c2 Ac Pe A3 m c3 R W ch w
  rw [show (decide (40 < n) || decide (40 < n2) || decide (120 < m)) = false by simp; omega] at K7
  replace K7 := Lib.hid K7
  clear hl hl2 hl3 hl4 hb hb2 hb3 hb4 hG hs hs2 hs3 hs4
  go_enter Try.func3, Try.ntmps3
  go_wp2_with fail
  refine (awake6 _).mono ?_
  rintro r w1 ⟨rfl, hb1⟩
  have HP1 := Lib.hid (HP0.out.below hb1)
  have HG1 := Lib.hid (chain HG0.out hb1)
  clear hb1 HP0 HG0
  have p0 := HP1.out.c 0 rfl
  have p1 := HP1.out.c 1 rfl
  have p2 := HP1.out.c 2 rfl
  have p3 := HP1.out.c 3 rfl
  have p4 := HP1.out.c 4 rfl
  have zp := HP1.out.1
  go_wp2_with fail
  refine (K7.out _).mono ?_
  rintro r w2 ⟨rfl, hb2⟩
  have HP2 := Lib.hid (HP1.out.below hb2)
  have HG2 := Lib.hid (chain HG1.out hb2)
  clear hb2 HP1 HG1 K7 p0 p1 p2 p3 p4 zp
  go_wp2_with fail
  refine (K1N.out _ (HB4.out.below HG2.out)).mono ?_
  rintro r w3 h
  obtain ⟨x1, _, xc1, x2, _, xc2, x3, _, xc3, rfl, rfl, xh1, xi1, rfl, xh2, xi2, rfl, xh3, xi3, xf1, xf2, xf3, xb⟩ := h
  have HP3 := Lib.hid (HP2.out.below xb)
  have HG3 := Lib.hid (chain HG2.out xb)
  clear HP2 HG2 K1N xb
  go_upto_region 6 with fail
  obtain ⟨u3, hu⟩ : ∃ u, u = w3.alloc (.cells #[.slice x1 RN.length xc1, .slice x2 WN.length xc2, .int .i64 AcN, .int .i64 PeN, .slice x3 ChN.length xc3] 25) := ⟨_, rfl⟩
  obtain ⟨Q, hQ⟩ : ∃ Q, Q = w3.heap.size := ⟨_, rfl⟩
  have al : Below w3.heap.size w3 u3 := by rw [hu]; exact (Below.refl _ _).alloc (Nat.le_refl _) _
  have HX3 : Hid (Cl Q u3 [.slice x1 RN.length xc1, .slice x2 WN.length xc2, .int .i64 AcN, .int .i64 PeN, .slice x3 ChN.length xc3]) := Lib.hid (by rw [hu]; exact Cl.new hQ _ 25)
  have HXi1 := Lib.hid (xi1.below al)
  have HXi2 := Lib.hid (xi2.below al)
  have HXi3 := Lib.hid (xi3.below al)
  have HP4 := Lib.hid (HP3.out.below al)
  have HG4 := Lib.hid (chain HG3.out al)
  have hQw : w.heap.size < Q := by rw [hQ]; exact HP3.out.1
  rw [← hu, ← hQ]
  clear hu hQ al xi1 xi2 xi3 xf1 xf2 xf3 HP3 HG3
  go_wp2_with fail
  refine (K2N.out _ (HB4.out.below HG4.out)).mono ?_
  rintro r w5 h
  obtain ⟨y1, _, yc1, y2, _, yc2, y3, _, yc3, rfl, rfl, yh1, yi1, rfl, yh2, yi2, rfl, yh3, yi3, yf1, yf2, yf3, yb⟩ := h
  have HP5 := Lib.hid (HP4.out.below yb)
  have HX5 := Lib.hid (HX3.out.below yb)
  have HG5 := Lib.hid (chain HG4.out yb)
  replace HXi1 := Lib.hid (HXi1.out.below yb)
  replace HXi2 := Lib.hid (HXi2.out.below yb)
  replace HXi3 := Lib.hid (HXi3.out.below yb)
  clear HP4 HG4 K2N HX3 yb
  go_upto_region 7 with fail
  obtain ⟨u5, hu⟩ : ∃ u, u = w5.alloc (.cells #[.slice y1 RN.length yc1, .slice y2 WN.length yc2, .int .i64 AcN, .int .i64 PeN, .slice y3 ChN.length yc3] 25) := ⟨_, rfl⟩
  obtain ⟨T, hT⟩ : ∃ T, T = w5.heap.size := ⟨_, rfl⟩
  have al : Below w5.heap.size w5 u5 := by rw [hu]; exact (Below.refl _ _).alloc (Nat.le_refl _) _
  have HY6 : Hid (Cl T u5 [.slice y1 RN.length yc1, .slice y2 WN.length yc2, .int .i64 AcN, .int .i64 PeN, .slice y3 ChN.length yc3]) := Lib.hid (by rw [hu]; exact Cl.new hT _ 25)
  have HYi1 := Lib.hid (yi1.below al)
  have HYi2 := Lib.hid (yi2.below al)
  have HYi3 := Lib.hid (yi3.below al)
  replace HXi1 := Lib.hid (HXi1.out.below al)
  replace HXi2 := Lib.hid (HXi2.out.below al)
  replace HXi3 := Lib.hid (HXi3.out.below al)
  have HP6 := Lib.hid (HP5.out.below al)
  have HX6 := Lib.hid (HX5.out.below al)
  have HG6 := Lib.hid (chain HG5.out al)
  have hQT : Q < T := by rw [hT]; exact HX5.out.1
  rw [← hu, ← hT]
  clear hu hT al yi1 yi2 yi3 yf1 yf2 yf3 HP5 HG5 HX5
  have p0 := HP6.out.c 0 rfl
  have p1 := HP6.out.c 1 rfl
  have p2 := HP6.out.c 2 rfl
  have p3 := HP6.out.c 3 rfl
  have p4 := HP6.out.c 4 rfl
  have zp := HP6.out.1
  have s0 := HX6.out.c 0 rfl
  have s1 := HX6.out.c 1 rfl
  have s2 := HX6.out.c 2 rfl
  have s3 := HX6.out.c 3 rfl
  have s4 := HX6.out.c 4 rfl
  have zs := HX6.out.1
  have t0 := HY6.out.c 0 rfl
  have t1 := HY6.out.c 1 rfl
  have t2 := HY6.out.c 2 rfl
  have t3 := HY6.out.c 3 rfl
  have t4 := HY6.out.c 4 rfl
  have zt := HY6.out.1
  have KA1 := fun W' (hH : (∀ b o, b < u5.heap.size → W'.cell? ⟨b, o, none⟩ = u5.cell? ⟨b, o, none⟩) ∧ Below u5.heap.size u5 W') => KSN.out _ _ _ _ _ _ _ _ _ _ _ _ W' (HXi1.out.below hH.2) (HYi1.out.below hH.2) xh1 yh1 (HXi2.out.below hH.2) (HYi2.out.below hH.2) xh2 yh2 (HXi3.out.below hH.2) (HYi3.out.below hH.2) xh3 yh3
  have KA2 := fun W' (hH : (∀ b o, b < u5.heap.size → W'.cell? ⟨b, o, none⟩ = u5.cell? ⟨b, o, none⟩) ∧ Below u5.heap.size u5 W') => KV1.out W' (HB1.out.below (chain HG6.out hH.2)) (HB2.out.below (chain HG6.out hH.2)) (HB3.out.below (chain HG6.out hH.2))
  have KA3 := fun W' (hH : (∀ b o, b < u5.heap.size → W'.cell? ⟨b, o, none⟩ = u5.cell? ⟨b, o, none⟩) ∧ Below u5.heap.size u5 W') => KV2.out W' (HB1.out.below (chain HG6.out hH.2)) (HB2.out.below (chain HG6.out hH.2)) (HB3.out.below (chain HG6.out hH.2))
  replace KA1 := Lib.hid KA1
  replace KA2 := Lib.hid KA2
  replace KA3 := Lib.hid KA3
  clear KSN KV1 KV2
  go_region_held3 (fun W' => (∀ b o, b < u5.heap.size → W'.cell? ⟨b, o, none⟩ = u5.cell? ⟨b, o, none⟩) ∧ Below u5.heap.size u5 W')
    (first | exact Kp.mk (Below.refl _ _).drew | (refine Kp.next ?_ hb7; assumption) | (refine Kp.next ?_ hb8; assumption) | (refine Kp.next ?_ hb9; assumption))
    (first | (go_at_call 10; refine (KA1.out _ ?_).mono ?_; assumption; rintro r w7 ⟨rfl, hb7⟩) | (go_at_call 11; refine (KA2.out _ ?_).mono ?_; assumption; rintro r w8 ⟨rfl, hb8⟩) | (go_at_call 12; refine (KA3.out _ ?_).mono ?_; assumption; rintro r w9 ⟨rfl, hb9⟩))
  rename_i hh
  have HP := Lib.hid (HP6.out.below hh.2)
  have HX := Lib.hid (HX6.out.below hh.2)
  have HY := Lib.hid (HY6.out.below hh.2)
  have HG := Lib.hid (chain HG6.out hh.2)
  clear hh hb7 hb8 hb9 p0 p1 p2 p3 p4 s0 s1 s2 s3 s4 t0 t1 t2 t3 t4 zp zs zt HP6 HX6 HY6 HG6 KA1 KA2 KA3 HXi1 HXi2 HXi3 HYi1 HYi2 HYi3 HB4 xh1 xh2 xh3 yh1 yh2 yh3
  have p0 := HP.out.c 0 rfl
  have p1 := HP.out.c 1 rfl
  have p2 := HP.out.c 2 rfl
  have p3 := HP.out.c 3 rfl
  have p4 := HP.out.c 4 rfl
  have zp := HP.out.1
  go_wp2_with fail
  refine (KR1.out _ (HB1.out.below HG.out) (HB2.out.below HG.out) (HB3.out.below HG.out)).mono ?_
  rintro r v1 ⟨rfl, hb⟩
  replace HP := Lib.hid (HP.out.below hb)
  replace HX := Lib.hid (HX.out.below hb)
  replace HY := Lib.hid (HY.out.below hb)
  replace HG := Lib.hid (chain HG.out hb)
  clear hb
  clear p0 p1 p2 p3 p4 zp KR1
  have p0 := HP.out.c 0 rfl
  have p1 := HP.out.c 1 rfl
  have p2 := HP.out.c 2 rfl
  have p3 := HP.out.c 3 rfl
  have p4 := HP.out.c 4 rfl
  have zp := HP.out.1
  go_wp2_with fail
  refine (KR2.out _ (HB1.out.below HG.out) (HB2.out.below HG.out) (HB3.out.below HG.out)).mono ?_
  rintro r v2 ⟨rfl, hb⟩
  replace HP := Lib.hid (HP.out.below hb)
  replace HX := Lib.hid (HX.out.below hb)
  replace HY := Lib.hid (HY.out.below hb)
  replace HG := Lib.hid (chain HG.out hb)
  clear hb
  clear p0 p1 p2 p3 p4 zp KR2
  have p0 := HP.out.c 0 rfl
  have p1 := HP.out.c 1 rfl
  have p2 := HP.out.c 2 rfl
  have p3 := HP.out.c 3 rfl
  have p4 := HP.out.c 4 rfl
  have zp := HP.out.1
  have hQc : Q < v2.heap.size := HX.out.1
  have hTc : T < v2.heap.size := HY.out.1
  go_wp2_with fail
  refine (K1W.out _ (HB1.out.below HG.out) (HB2.out.below HG.out) (HB3.out.below HG.out)).mono ?_
  rintro r w1W h
  obtain ⟨x1, _, xc1, x2, _, xc2, x3, _, xc3, rfl, rfl, xh1, xi1, rfl, xh2, xi2, rfl, xh3, xi3, xf1, xf2, xf3, xb⟩ := h
  have hb := xb
  replace HP := Lib.hid (HP.out.below hb)
  replace HX := Lib.hid (HX.out.below hb)
  replace HY := Lib.hid (HY.out.below hb)
  replace HG := Lib.hid (chain HG.out hb)
  clear hb
  clear p0 p1 p2 p3 p4 zp K1W xb
  have XI := Lib.hid (And.intro xi1 (And.intro xi2 xi3))
  have XF := Lib.hid (And.intro xf1 (And.intro xf2 xf3))
  clear xi1 xi2 xi3 xf1 xf2 xf3
  have s0 := HX.out.c 0 rfl
  have s1 := HX.out.c 1 rfl
  have s2 := HX.out.c 2 rfl
  have s3 := HX.out.c 3 rfl
  have s4 := HX.out.c 4 rfl
  have q0 := HX.out.f 0 rfl
  have q1 := HX.out.f 1 rfl
  have q2 := HX.out.f 2 rfl
  have q3 := HX.out.f 3 rfl
  have q4 := HX.out.f 4 rfl
  have zs := HX.out.1
  go_upto_region 14 with fail
  clear s0 s1 s2 s3 s4 q0 q1 q2 q3 q4 zs
  obtain ⟨u1W, hu⟩ : ∃ u, u = ((((((w1W).setCell ⟨Q, 0, none⟩ (.slice x1 RW.length xc1)).setCell ⟨Q, 1, none⟩ (.slice x2 WW.length xc2)).setCell ⟨Q, 2, none⟩ (.int .i64 AcW)).setCell ⟨Q, 3, none⟩ (.int .i64 PeW)).setCell ⟨Q, 4, none⟩ (.slice x3 ChW.length xc3)) := ⟨_, rfl⟩
  replace HP : Hid (Cl w.heap.size u1W [.slice A n c, .slice A2 n2 c2, .int .i64 Ac, .int .i64 Pe, .slice A3 m c3]) := Lib.hid (by rw [hu]; exact HP.out.far5 (by omega) _ _ _ _ _)
  replace HX : Hid (Cl Q u1W [.slice x1 RW.length xc1, .slice x2 WW.length xc2, .int .i64 AcW, .int .i64 PeW, .slice x3 ChW.length xc3]) := Lib.hid (by rw [hu]; exact HX.out.set5 _ _ _ _ _)
  replace HY : Hid (Cl T u1W [.slice y1 RN.length yc1, .slice y2 WN.length yc2, .int .i64 AcN, .int .i64 PeN, .slice y3 ChN.length yc3]) := Lib.hid (by rw [hu]; exact HY.out.far5 (by omega) _ _ _ _ _)
  replace HG : Hid (Below w.heap.size w u1W) := Lib.hid (by rw [hu]; exact below_set5 HG.out (by omega) _ _ _ _ _)
  have HXI : Hid (Ik .i64 u1W x1 RW ∧ Ik .i64 u1W x2 WW ∧ Ik .i64 u1W x3 (flat ChW)) := Lib.hid (by rw [hu]; exact ⟨XI.out.1.fr5 XF.out.1 hQc _ _ _ _ _, XI.out.2.1.fr5 XF.out.2.1 hQc _ _ _ _ _, XI.out.2.2.fr5 XF.out.2.2 hQc _ _ _ _ _⟩)
  rw [← hu]
  clear hu XI hQc
  have p0 := HP.out.c 0 rfl
  have p1 := HP.out.c 1 rfl
  have p2 := HP.out.c 2 rfl
  have p3 := HP.out.c 3 rfl
  have p4 := HP.out.c 4 rfl
  have zp := HP.out.1
  have hTu : T < u1W.heap.size := HY.out.1
  go_wp2_with fail
  refine (K2W.out _ (HB1.out.below HG.out) (HB2.out.below HG.out) (HB3.out.below HG.out)).mono ?_
  rintro r w2W h
  obtain ⟨y1, _, yc1, y2, _, yc2, y3, _, yc3, rfl, rfl, yh1, yi1, rfl, yh2, yi2, rfl, yh3, yi3, yf1, yf2, yf3, yb⟩ := h
  have hb := yb
  replace HXI := Lib.hid (And.intro (HXI.out.1.below hb) (And.intro (HXI.out.2.1.below hb) (HXI.out.2.2.below hb)))
  replace HP := Lib.hid (HP.out.below hb)
  replace HX := Lib.hid (HX.out.below hb)
  replace HY := Lib.hid (HY.out.below hb)
  replace HG := Lib.hid (chain HG.out hb)
  clear hb
  clear p0 p1 p2 p3 p4 zp K2W yb
  have YI := Lib.hid (And.intro yi1 (And.intro yi2 yi3))
  have YF := Lib.hid (And.intro yf1 (And.intro yf2 yf3))
  clear yi1 yi2 yi3 yf1 yf2 yf3
  have t0 := HY.out.c 0 rfl
  have t1 := HY.out.c 1 rfl
  have t2 := HY.out.c 2 rfl
  have t3 := HY.out.c 3 rfl
  have t4 := HY.out.c 4 rfl
  have q0 := HY.out.f 0 rfl
  have q1 := HY.out.f 1 rfl
  have q2 := HY.out.f 2 rfl
  have q3 := HY.out.f 3 rfl
  have q4 := HY.out.f 4 rfl
  have zt := HY.out.1
  go_upto_region 15 with fail
  clear t0 t1 t2 t3 t4 q0 q1 q2 q3 q4 zt
  obtain ⟨u2W, hu⟩ : ∃ u, u = ((((((w2W).setCell ⟨T, 0, none⟩ (.slice y1 RW.length yc1)).setCell ⟨T, 1, none⟩ (.slice y2 WW.length yc2)).setCell ⟨T, 2, none⟩ (.int .i64 AcW)).setCell ⟨T, 3, none⟩ (.int .i64 PeW)).setCell ⟨T, 4, none⟩ (.slice y3 ChW.length yc3)) := ⟨_, rfl⟩
  replace HP : Hid (Cl w.heap.size u2W [.slice A n c, .slice A2 n2 c2, .int .i64 Ac, .int .i64 Pe, .slice A3 m c3]) := Lib.hid (by rw [hu]; exact HP.out.far5 (by omega) _ _ _ _ _)
  replace HX : Hid (Cl Q u2W [.slice x1 RW.length xc1, .slice x2 WW.length xc2, .int .i64 AcW, .int .i64 PeW, .slice x3 ChW.length xc3]) := Lib.hid (by rw [hu]; exact HX.out.far5 (by omega) _ _ _ _ _)
  replace HY : Hid (Cl T u2W [.slice y1 RW.length yc1, .slice y2 WW.length yc2, .int .i64 AcW, .int .i64 PeW, .slice y3 ChW.length yc3]) := Lib.hid (by rw [hu]; exact HY.out.set5 _ _ _ _ _)
  replace HG : Hid (Below w.heap.size w u2W) := Lib.hid (by rw [hu]; exact below_set5 HG.out (by omega) _ _ _ _ _)
  replace HXI : Hid (Ik .i64 u2W x1 RW ∧ Ik .i64 u2W x2 WW ∧ Ik .i64 u2W x3 (flat ChW)) := Lib.hid (by rw [hu]; exact ⟨HXI.out.1.fr5 XF.out.1 hTc _ _ _ _ _, HXI.out.2.1.fr5 XF.out.2.1 hTc _ _ _ _ _, HXI.out.2.2.fr5 XF.out.2.2 hTc _ _ _ _ _⟩)
  have HYI : Hid (Ik .i64 u2W y1 RW ∧ Ik .i64 u2W y2 WW ∧ Ik .i64 u2W y3 (flat ChW)) := Lib.hid (by rw [hu]; exact ⟨YI.out.1.fr5 YF.out.1 hTu _ _ _ _ _, YI.out.2.1.fr5 YF.out.2.1 hTu _ _ _ _ _, YI.out.2.2.fr5 YF.out.2.2 hTu _ _ _ _ _⟩)
  rw [← hu]
  clear hu XF YI YF hTc hTu
  have s0 := HX.out.c 0 rfl
  have s1 := HX.out.c 1 rfl
  have s2 := HX.out.c 2 rfl
  have s3 := HX.out.c 3 rfl
  have s4 := HX.out.c 4 rfl
  have zs := HX.out.1
  have t0 := HY.out.c 0 rfl
  have t1 := HY.out.c 1 rfl
  have t2 := HY.out.c 2 rfl
  have t3 := HY.out.c 3 rfl
  have t4 := HY.out.c 4 rfl
  have zt := HY.out.1
  go_wp2_with fail
  refine (KSW.out _ _ _ _ _ _ _ _ _ _ _ _ _ HXI.out.1 HYI.out.1 xh1 yh1 HXI.out.2.1 HYI.out.2.1 xh2 yh2 HXI.out.2.2 HYI.out.2.2 xh3 yh3).mono ?_
  rintro r vW ⟨rfl, hb⟩
  replace HP := Lib.hid (HP.out.below hb)
  replace HX := Lib.hid (HX.out.below hb)
  replace HY := Lib.hid (HY.out.below hb)
  replace HG := Lib.hid (chain HG.out hb)
  clear hb
  clear s0 s1 s2 s3 s4 t0 t1 t2 t3 t4 zs zt KSW HXI HYI
  clear xh1 xh2 xh3 yh1 yh2 yh3
  have p0 := HP.out.c 0 rfl
  have p1 := HP.out.c 1 rfl
  have p2 := HP.out.c 2 rfl
  have p3 := HP.out.c 3 rfl
  have p4 := HP.out.c 4 rfl
  have zp := HP.out.1
  have hQc : Q < vW.heap.size := HX.out.1
  have hTc : T < vW.heap.size := HY.out.1
  go_wp2_with fail
  refine (K1S.out _ (HB1.out.below HG.out) (HB2.out.below HG.out) (HB3.out.below HG.out)).mono ?_
  rintro r w1S h
  obtain ⟨x1, _, xc1, x2, _, xc2, x3, _, xc3, rfl, rfl, xh1, xi1, rfl, xh2, xi2, rfl, xh3, xi3, xf1, xf2, xf3, xb⟩ := h
  have hb := xb
  replace HP := Lib.hid (HP.out.below hb)
  replace HX := Lib.hid (HX.out.below hb)
  replace HY := Lib.hid (HY.out.below hb)
  replace HG := Lib.hid (chain HG.out hb)
  clear hb
  clear p0 p1 p2 p3 p4 zp K1S xb
  have XI := Lib.hid (And.intro xi1 (And.intro xi2 xi3))
  have XF := Lib.hid (And.intro xf1 (And.intro xf2 xf3))
  clear xi1 xi2 xi3 xf1 xf2 xf3
  have s0 := HX.out.c 0 rfl
  have s1 := HX.out.c 1 rfl
  have s2 := HX.out.c 2 rfl
  have s3 := HX.out.c 3 rfl
  have s4 := HX.out.c 4 rfl
  have q0 := HX.out.f 0 rfl
  have q1 := HX.out.f 1 rfl
  have q2 := HX.out.f 2 rfl
  have q3 := HX.out.f 3 rfl
  have q4 := HX.out.f 4 rfl
  have zs := HX.out.1
  go_upto_region 18 with fail
  clear s0 s1 s2 s3 s4 q0 q1 q2 q3 q4 zs
  obtain ⟨u1S, hu⟩ : ∃ u, u = ((((((w1S).setCell ⟨Q, 0, none⟩ (.slice x1 RS.length xc1)).setCell ⟨Q, 1, none⟩ (.slice x2 WS.length xc2)).setCell ⟨Q, 2, none⟩ (.int .i64 AcS)).setCell ⟨Q, 3, none⟩ (.int .i64 PeS)).setCell ⟨Q, 4, none⟩ (.slice x3 ChS.length xc3)) := ⟨_, rfl⟩
  replace HP : Hid (Cl w.heap.size u1S [.slice A n c, .slice A2 n2 c2, .int .i64 Ac, .int .i64 Pe, .slice A3 m c3]) := Lib.hid (by rw [hu]; exact HP.out.far5 (by omega) _ _ _ _ _)
  replace HX : Hid (Cl Q u1S [.slice x1 RS.length xc1, .slice x2 WS.length xc2, .int .i64 AcS, .int .i64 PeS, .slice x3 ChS.length xc3]) := Lib.hid (by rw [hu]; exact HX.out.set5 _ _ _ _ _)
  replace HY : Hid (Cl T u1S [.slice y1 RW.length yc1, .slice y2 WW.length yc2, .int .i64 AcW, .int .i64 PeW, .slice y3 ChW.length yc3]) := Lib.hid (by rw [hu]; exact HY.out.far5 (by omega) _ _ _ _ _)
  replace HG : Hid (Below w.heap.size w u1S) := Lib.hid (by rw [hu]; exact below_set5 HG.out (by omega) _ _ _ _ _)
  have HXI : Hid (Ik .i64 u1S x1 RS ∧ Ik .i64 u1S x2 WS ∧ Ik .i64 u1S x3 (flat ChS)) := Lib.hid (by rw [hu]; exact ⟨XI.out.1.fr5 XF.out.1 hQc _ _ _ _ _, XI.out.2.1.fr5 XF.out.2.1 hQc _ _ _ _ _, XI.out.2.2.fr5 XF.out.2.2 hQc _ _ _ _ _⟩)
  rw [← hu]
  clear hu XI hQc
  have p0 := HP.out.c 0 rfl
  have p1 := HP.out.c 1 rfl
  have p2 := HP.out.c 2 rfl
  have p3 := HP.out.c 3 rfl
  have p4 := HP.out.c 4 rfl
  have zp := HP.out.1
  have hTu : T < u1S.heap.size := HY.out.1
  go_wp2_with fail
  refine (K2S.out _ (HB1.out.below HG.out) (HB2.out.below HG.out) (HB3.out.below HG.out)).mono ?_
  rintro r w2S h
  obtain ⟨y1, _, yc1, y2, _, yc2, y3, _, yc3, rfl, rfl, yh1, yi1, rfl, yh2, yi2, rfl, yh3, yi3, yf1, yf2, yf3, yb⟩ := h
  have hb := yb
  replace HXI := Lib.hid (And.intro (HXI.out.1.below hb) (And.intro (HXI.out.2.1.below hb) (HXI.out.2.2.below hb)))
  replace HP := Lib.hid (HP.out.below hb)
  replace HX := Lib.hid (HX.out.below hb)
  replace HY := Lib.hid (HY.out.below hb)
  replace HG := Lib.hid (chain HG.out hb)
  clear hb
  clear p0 p1 p2 p3 p4 zp K2S yb
  have YI := Lib.hid (And.intro yi1 (And.intro yi2 yi3))
  have YF := Lib.hid (And.intro yf1 (And.intro yf2 yf3))
  clear yi1 yi2 yi3 yf1 yf2 yf3
  have t0 := HY.out.c 0 rfl
  have t1 := HY.out.c 1 rfl
  have t2 := HY.out.c 2 rfl
  have t3 := HY.out.c 3 rfl
  have t4 := HY.out.c 4 rfl
  have q0 := HY.out.f 0 rfl
  have q1 := HY.out.f 1 rfl
  have q2 := HY.out.f 2 rfl
  have q3 := HY.out.f 3 rfl
  have q4 := HY.out.f 4 rfl
  have zt := HY.out.1
  go_upto_region 19 with fail
  clear t0 t1 t2 t3 t4 q0 q1 q2 q3 q4 zt
  obtain ⟨u2S, hu⟩ : ∃ u, u = ((((((w2S).setCell ⟨T, 0, none⟩ (.slice y1 RS.length yc1)).setCell ⟨T, 1, none⟩ (.slice y2 WS.length yc2)).setCell ⟨T, 2, none⟩ (.int .i64 AcS)).setCell ⟨T, 3, none⟩ (.int .i64 PeS)).setCell ⟨T, 4, none⟩ (.slice y3 ChS.length yc3)) := ⟨_, rfl⟩
  replace HP : Hid (Cl w.heap.size u2S [.slice A n c, .slice A2 n2 c2, .int .i64 Ac, .int .i64 Pe, .slice A3 m c3]) := Lib.hid (by rw [hu]; exact HP.out.far5 (by omega) _ _ _ _ _)
  replace HX : Hid (Cl Q u2S [.slice x1 RS.length xc1, .slice x2 WS.length xc2, .int .i64 AcS, .int .i64 PeS, .slice x3 ChS.length xc3]) := Lib.hid (by rw [hu]; exact HX.out.far5 (by omega) _ _ _ _ _)
  replace HY : Hid (Cl T u2S [.slice y1 RS.length yc1, .slice y2 WS.length yc2, .int .i64 AcS, .int .i64 PeS, .slice y3 ChS.length yc3]) := Lib.hid (by rw [hu]; exact HY.out.set5 _ _ _ _ _)
  replace HG : Hid (Below w.heap.size w u2S) := Lib.hid (by rw [hu]; exact below_set5 HG.out (by omega) _ _ _ _ _)
  replace HXI : Hid (Ik .i64 u2S x1 RS ∧ Ik .i64 u2S x2 WS ∧ Ik .i64 u2S x3 (flat ChS)) := Lib.hid (by rw [hu]; exact ⟨HXI.out.1.fr5 XF.out.1 hTc _ _ _ _ _, HXI.out.2.1.fr5 XF.out.2.1 hTc _ _ _ _ _, HXI.out.2.2.fr5 XF.out.2.2 hTc _ _ _ _ _⟩)
  have HYI : Hid (Ik .i64 u2S y1 RS ∧ Ik .i64 u2S y2 WS ∧ Ik .i64 u2S y3 (flat ChS)) := Lib.hid (by rw [hu]; exact ⟨YI.out.1.fr5 YF.out.1 hTu _ _ _ _ _, YI.out.2.1.fr5 YF.out.2.1 hTu _ _ _ _ _, YI.out.2.2.fr5 YF.out.2.2 hTu _ _ _ _ _⟩)
  rw [← hu]
  clear hu XF YI YF hTc hTu
  have s0 := HX.out.c 0 rfl
  have s1 := HX.out.c 1 rfl
  have s2 := HX.out.c 2 rfl
  have s3 := HX.out.c 3 rfl
  have s4 := HX.out.c 4 rfl
  have zs := HX.out.1
  have t0 := HY.out.c 0 rfl
  have t1 := HY.out.c 1 rfl
  have t2 := HY.out.c 2 rfl
  have t3 := HY.out.c 3 rfl
  have t4 := HY.out.c 4 rfl
  have zt := HY.out.1
  go_wp2_with fail
  refine (KSS.out _ _ _ _ _ _ _ _ _ _ _ _ _ HXI.out.1 HYI.out.1 xh1 yh1 HXI.out.2.1 HYI.out.2.1 xh2 yh2 HXI.out.2.2 HYI.out.2.2 xh3 yh3).mono ?_
  rintro r vS ⟨rfl, hb⟩
  replace HP := Lib.hid (HP.out.below hb)
  replace HX := Lib.hid (HX.out.below hb)
  replace HY := Lib.hid (HY.out.below hb)
  replace HG := Lib.hid (chain HG.out hb)
  clear hb
  clear s0 s1 s2 s3 s4 t0 t1 t2 t3 t4 zs zt KSS HXI HYI
  clear xh1 xh2 xh3 yh1 yh2 yh3
  have p0 := HP.out.c 0 rfl
  have p1 := HP.out.c 1 rfl
  have p2 := HP.out.c 2 rfl
  have p3 := HP.out.c 3 rfl
  have p4 := HP.out.c 4 rfl
  have zp := HP.out.1
  have hQc : Q < vS.heap.size := HX.out.1
  have hTc : T < vS.heap.size := HY.out.1
  go_wp2_with fail
  refine (K1C.out _ (HB1.out.below HG.out) (HB2.out.below HG.out) (HB3.out.below HG.out)).mono ?_
  rintro r w1C h
  obtain ⟨x1, _, xc1, x2, _, xc2, x3, _, xc3, rfl, rfl, xh1, xi1, rfl, xh2, xi2, rfl, xh3, xi3, xf1, xf2, xf3, xb⟩ := h
  have hb := xb
  replace HP := Lib.hid (HP.out.below hb)
  replace HX := Lib.hid (HX.out.below hb)
  replace HY := Lib.hid (HY.out.below hb)
  replace HG := Lib.hid (chain HG.out hb)
  clear hb
  clear p0 p1 p2 p3 p4 zp K1C xb
  have XI := Lib.hid (And.intro xi1 (And.intro xi2 xi3))
  have XF := Lib.hid (And.intro xf1 (And.intro xf2 xf3))
  clear xi1 xi2 xi3 xf1 xf2 xf3
  have s0 := HX.out.c 0 rfl
  have s1 := HX.out.c 1 rfl
  have s2 := HX.out.c 2 rfl
  have s3 := HX.out.c 3 rfl
  have s4 := HX.out.c 4 rfl
  have q0 := HX.out.f 0 rfl
  have q1 := HX.out.f 1 rfl
  have q2 := HX.out.f 2 rfl
  have q3 := HX.out.f 3 rfl
  have q4 := HX.out.f 4 rfl
  have zs := HX.out.1
  go_upto_region 22 with fail
  clear s0 s1 s2 s3 s4 q0 q1 q2 q3 q4 zs
  obtain ⟨u1C, hu⟩ : ∃ u, u = ((((((w1C).setCell ⟨Q, 0, none⟩ (.slice x1 RC.length xc1)).setCell ⟨Q, 1, none⟩ (.slice x2 WC.length xc2)).setCell ⟨Q, 2, none⟩ (.int .i64 AcC)).setCell ⟨Q, 3, none⟩ (.int .i64 PeC)).setCell ⟨Q, 4, none⟩ (.slice x3 ChC.length xc3)) := ⟨_, rfl⟩
  replace HP : Hid (Cl w.heap.size u1C [.slice A n c, .slice A2 n2 c2, .int .i64 Ac, .int .i64 Pe, .slice A3 m c3]) := Lib.hid (by rw [hu]; exact HP.out.far5 (by omega) _ _ _ _ _)
  replace HX : Hid (Cl Q u1C [.slice x1 RC.length xc1, .slice x2 WC.length xc2, .int .i64 AcC, .int .i64 PeC, .slice x3 ChC.length xc3]) := Lib.hid (by rw [hu]; exact HX.out.set5 _ _ _ _ _)
  replace HY : Hid (Cl T u1C [.slice y1 RS.length yc1, .slice y2 WS.length yc2, .int .i64 AcS, .int .i64 PeS, .slice y3 ChS.length yc3]) := Lib.hid (by rw [hu]; exact HY.out.far5 (by omega) _ _ _ _ _)
  replace HG : Hid (Below w.heap.size w u1C) := Lib.hid (by rw [hu]; exact below_set5 HG.out (by omega) _ _ _ _ _)
  have HXI : Hid (Ik .i64 u1C x1 RC ∧ Ik .i64 u1C x2 WC ∧ Ik .i64 u1C x3 (flat ChC)) := Lib.hid (by rw [hu]; exact ⟨XI.out.1.fr5 XF.out.1 hQc _ _ _ _ _, XI.out.2.1.fr5 XF.out.2.1 hQc _ _ _ _ _, XI.out.2.2.fr5 XF.out.2.2 hQc _ _ _ _ _⟩)
  rw [← hu]
  clear hu XI hQc
  have p0 := HP.out.c 0 rfl
  have p1 := HP.out.c 1 rfl
  have p2 := HP.out.c 2 rfl
  have p3 := HP.out.c 3 rfl
  have p4 := HP.out.c 4 rfl
  have zp := HP.out.1
  have hTu : T < u1C.heap.size := HY.out.1
  go_wp2_with fail
  refine (K2C.out _ (HB1.out.below HG.out) (HB2.out.below HG.out) (HB3.out.below HG.out)).mono ?_
  rintro r w2C h
  obtain ⟨y1, _, yc1, y2, _, yc2, y3, _, yc3, rfl, rfl, yh1, yi1, rfl, yh2, yi2, rfl, yh3, yi3, yf1, yf2, yf3, yb⟩ := h
  have hb := yb
  replace HXI := Lib.hid (And.intro (HXI.out.1.below hb) (And.intro (HXI.out.2.1.below hb) (HXI.out.2.2.below hb)))
  replace HP := Lib.hid (HP.out.below hb)
  replace HX := Lib.hid (HX.out.below hb)
  replace HY := Lib.hid (HY.out.below hb)
  replace HG := Lib.hid (chain HG.out hb)
  clear hb
  clear p0 p1 p2 p3 p4 zp K2C yb
  have YI := Lib.hid (And.intro yi1 (And.intro yi2 yi3))
  have YF := Lib.hid (And.intro yf1 (And.intro yf2 yf3))
  clear yi1 yi2 yi3 yf1 yf2 yf3
  have t0 := HY.out.c 0 rfl
  have t1 := HY.out.c 1 rfl
  have t2 := HY.out.c 2 rfl
  have t3 := HY.out.c 3 rfl
  have t4 := HY.out.c 4 rfl
  have q0 := HY.out.f 0 rfl
  have q1 := HY.out.f 1 rfl
  have q2 := HY.out.f 2 rfl
  have q3 := HY.out.f 3 rfl
  have q4 := HY.out.f 4 rfl
  have zt := HY.out.1
  go_upto_region 23 with fail
  clear t0 t1 t2 t3 t4 q0 q1 q2 q3 q4 zt
  obtain ⟨u2C, hu⟩ : ∃ u, u = ((((((w2C).setCell ⟨T, 0, none⟩ (.slice y1 RC.length yc1)).setCell ⟨T, 1, none⟩ (.slice y2 WC.length yc2)).setCell ⟨T, 2, none⟩ (.int .i64 AcC)).setCell ⟨T, 3, none⟩ (.int .i64 PeC)).setCell ⟨T, 4, none⟩ (.slice y3 ChC.length yc3)) := ⟨_, rfl⟩
  replace HP : Hid (Cl w.heap.size u2C [.slice A n c, .slice A2 n2 c2, .int .i64 Ac, .int .i64 Pe, .slice A3 m c3]) := Lib.hid (by rw [hu]; exact HP.out.far5 (by omega) _ _ _ _ _)
  replace HX : Hid (Cl Q u2C [.slice x1 RC.length xc1, .slice x2 WC.length xc2, .int .i64 AcC, .int .i64 PeC, .slice x3 ChC.length xc3]) := Lib.hid (by rw [hu]; exact HX.out.far5 (by omega) _ _ _ _ _)
  replace HY : Hid (Cl T u2C [.slice y1 RC.length yc1, .slice y2 WC.length yc2, .int .i64 AcC, .int .i64 PeC, .slice y3 ChC.length yc3]) := Lib.hid (by rw [hu]; exact HY.out.set5 _ _ _ _ _)
  replace HG : Hid (Below w.heap.size w u2C) := Lib.hid (by rw [hu]; exact below_set5 HG.out (by omega) _ _ _ _ _)
  replace HXI : Hid (Ik .i64 u2C x1 RC ∧ Ik .i64 u2C x2 WC ∧ Ik .i64 u2C x3 (flat ChC)) := Lib.hid (by rw [hu]; exact ⟨HXI.out.1.fr5 XF.out.1 hTc _ _ _ _ _, HXI.out.2.1.fr5 XF.out.2.1 hTc _ _ _ _ _, HXI.out.2.2.fr5 XF.out.2.2 hTc _ _ _ _ _⟩)
  have HYI : Hid (Ik .i64 u2C y1 RC ∧ Ik .i64 u2C y2 WC ∧ Ik .i64 u2C y3 (flat ChC)) := Lib.hid (by rw [hu]; exact ⟨YI.out.1.fr5 YF.out.1 hTu _ _ _ _ _, YI.out.2.1.fr5 YF.out.2.1 hTu _ _ _ _ _, YI.out.2.2.fr5 YF.out.2.2 hTu _ _ _ _ _⟩)
  rw [← hu]
  clear hu XF YI YF hTc hTu
  have s0 := HX.out.c 0 rfl
  have s1 := HX.out.c 1 rfl
  have s2 := HX.out.c 2 rfl
  have s3 := HX.out.c 3 rfl
  have s4 := HX.out.c 4 rfl
  have zs := HX.out.1
  have t0 := HY.out.c 0 rfl
  have t1 := HY.out.c 1 rfl
  have t2 := HY.out.c 2 rfl
  have t3 := HY.out.c 3 rfl
  have t4 := HY.out.c 4 rfl
  have zt := HY.out.1
  go_wp2_with fail
  refine (KSC.out _ _ _ _ _ _ _ _ _ _ _ _ _ HXI.out.1 HYI.out.1 xh1 yh1 HXI.out.2.1 HYI.out.2.1 xh2 yh2 HXI.out.2.2 HYI.out.2.2 xh3 yh3).mono ?_
  rintro r vC ⟨rfl, hb⟩
  replace HP := Lib.hid (HP.out.below hb)
  replace HX := Lib.hid (HX.out.below hb)
  replace HY := Lib.hid (HY.out.below hb)
  replace HG := Lib.hid (chain HG.out hb)
  clear hb
  clear s0 s1 s2 s3 s4 t0 t1 t2 t3 t4 zs zt KSC HXI HYI
  go_wp2
  go_ret
  exact ⟨rfl, HG.out⟩
set_option maxRecDepth 100000 in
set_option maxHeartbeats 16000000 in
theorem pages3_great (A : Option Addr) (n c : Nat) (A2 : Option Addr) (n2 c2 : Nat) (Ac Pe : Int) (A3 : Option Addr) (m c3 : Nat) (R W : List Int) (ch : List (Int × Int)) (A4 : Option Addr) (n4 c4 : Nat) (l : List Int) (i x g : Int) (w : World) (hl : R.length = n) (hb : Ik .i64 w A R) (hc : n ≤ c) (hl2 : W.length = n2) (hb2 : Ik .i64 w A2 W) (hc2 : n2 ≤ c2) (hl3 : ch.length = m) (hb3 : Ik .i64 w A3 (flat ch)) (hc3 : m ≤ c3) (hl4 : l.length = n4) (hb4 : Ik .i64 w A4 l) (hc4 : n4 ≤ c4) (hG : ¬ (n ≤ 40 ∧ n2 ≤ 40 ∧ m ≤ 120)) : Calls Try.prog 3 #[.agg #[.slice A n c, .slice A2 n2 c2, .int .i64 Ac, .int .i64 Pe, .slice A3 m c3], .slice A4 n4 c4, .int .i64 i, .int .i64 x, .int .i64 g] w fun r w' => r = .returned (.bool true) ∧ Below w.heap.size w w' := by
  have HP0 := Lib.hid (Cl.new (w := w) rfl [.slice A n c, .slice A2 n2 c2, .int .i64 Ac, .int .i64 Pe, .slice A3 m c3] 25)
  have HG0 := Lib.hid (show Below w.heap.size w (w.alloc (.cells #[.slice A n c, .slice A2 n2 c2, .int .i64 Ac, .int .i64 Pe, .slice A3 m c3] 25)) from (Below.refl _ _).alloc (Nat.le_refl _) _)
  have K7 := fun w => great7 A n c A2 n2 c2 Ac Pe A3 m c3 R W ch w
  rw [show (decide (40 < n) || decide (40 < n2) || decide (120 < m)) = true by simp; omega] at K7
  replace K7 := Lib.hid K7
  clear hl hl2 hl3 hl4 hb hb2 hb3 hb4 hG
  go_enter Try.func3, Try.ntmps3
  go_wp2_with fail
  refine (awake6 _).mono ?_
  rintro r w1 ⟨rfl, hb1⟩
  have HP1 := Lib.hid (HP0.out.below hb1)
  have HG1 := Lib.hid (chain HG0.out hb1)
  clear hb1 HP0 HG0
  have p0 := HP1.out.c 0 rfl
  have p1 := HP1.out.c 1 rfl
  have p2 := HP1.out.c 2 rfl
  have p3 := HP1.out.c 3 rfl
  have p4 := HP1.out.c 4 rfl
  have zp := HP1.out.1
  go_wp2_with fail
  refine (K7.out _).mono ?_
  rintro r w2 ⟨rfl, hb2⟩
  have HG2 := Lib.hid (chain HG1.out hb2)
  clear hb2 HP1 HG1 K7 p0 p1 p2 p3 p4 zp
  go_wp2
  go_ret
  exact ⟨rfl, HG2.out⟩
set_option maxRecDepth 100000 in
set_option maxHeartbeats 16000000 in
theorem pages3_long (A : Option Addr) (n c : Nat) (A2 : Option Addr) (n2 c2 : Nat) (Ac Pe : Int) (A3 : Option Addr) (m c3 : Nat) (R W : List Int) (ch : List (Int × Int)) (A4 : Option Addr) (n4 c4 : Nat) (l : List Int) (i x g : Int) (w : World) (hl : R.length = n) (hb : Ik .i64 w A R) (hc : n ≤ c) (hl2 : W.length = n2) (hb2 : Ik .i64 w A2 W) (hc2 : n2 ≤ c2) (hl3 : ch.length = m) (hb3 : Ik .i64 w A3 (flat ch)) (hc3 : m ≤ c3) (hl4 : l.length = n4) (hb4 : Ik .i64 w A4 l) (hc4 : n4 ≤ c4) (hG : n ≤ 40 ∧ n2 ≤ 40 ∧ m ≤ 120) (h4 : ¬ n4 ≤ 40) : Calls Try.prog 3 #[.agg #[.slice A n c, .slice A2 n2 c2, .int .i64 Ac, .int .i64 Pe, .slice A3 m c3], .slice A4 n4 c4, .int .i64 i, .int .i64 x, .int .i64 g] w fun r w' => r = .returned (.bool true) ∧ Below w.heap.size w w' := by
  have HP0 := Lib.hid (Cl.new (w := w) rfl [.slice A n c, .slice A2 n2 c2, .int .i64 Ac, .int .i64 Pe, .slice A3 m c3] 25)
  have HG0 := Lib.hid (show Below w.heap.size w (w.alloc (.cells #[.slice A n c, .slice A2 n2 c2, .int .i64 Ac, .int .i64 Pe, .slice A3 m c3] 25)) from (Below.refl _ _).alloc (Nat.le_refl _) _)
  have K7 := fun w => great7 A n c A2 n2 c2 Ac Pe A3 m c3 R W ch w
  rw [show (decide (40 < n) || decide (40 < n2) || decide (120 < m)) = false by simp; omega] at K7
  replace K7 := Lib.hid K7
  have d4 : decide (40 < (n4 : Int)) = true := by simp; omega
  clear hl hl2 hl3 hl4 hb hb2 hb3 hb4 hG h4
  go_enter Try.func3, Try.ntmps3
  go_wp2_with fail
  refine (awake6 _).mono ?_
  rintro r w1 ⟨rfl, hb1⟩
  have HP1 := Lib.hid (HP0.out.below hb1)
  have HG1 := Lib.hid (chain HG0.out hb1)
  clear hb1 HP0 HG0
  have p0 := HP1.out.c 0 rfl
  have p1 := HP1.out.c 1 rfl
  have p2 := HP1.out.c 2 rfl
  have p3 := HP1.out.c 3 rfl
  have p4 := HP1.out.c 4 rfl
  have zp := HP1.out.1
  go_wp2_with fail
  refine (K7.out _).mono ?_
  rintro r w2 ⟨rfl, hb2⟩
  have HG2 := Lib.hid (chain HG1.out hb2)
  clear hb2 HP1 HG1 K7 p0 p1 p2 p3 p4 zp
  go_wp2
  go_ret
  exact ⟨rfl, HG2.out⟩
theorem pages3 (A : Option Addr) (n c : Nat) (A2 : Option Addr) (n2 c2 : Nat) (Ac Pe : Int) (A3 : Option Addr) (m c3 : Nat) (R W : List Int) (ch : List (Int × Int)) (A4 : Option Addr) (n4 c4 : Nat) (l : List Int) (i x g : Int) (w : World) (hl : R.length = n) (hb : Ik .i64 w A R) (hc : n ≤ c) (hl2 : W.length = n2) (hb2 : Ik .i64 w A2 W) (hc2 : n2 ≤ c2) (hl3 : ch.length = m) (hb3 : Ik .i64 w A3 (flat ch)) (hc3 : m ≤ c3) (hl4 : l.length = n4) (hb4 : Ik .i64 w A4 l) (hc4 : n4 ≤ c4) : Calls Try.prog 3 #[.agg #[.slice A n c, .slice A2 n2 c2, .int .i64 Ac, .int .i64 Pe, .slice A3 m c3], .slice A4 n4 c4, .int .i64 i, .int .i64 x, .int .i64 g] w fun r w' => r = .returned (.bool true) ∧ Below w.heap.size w w' := by
  by_cases hG : n ≤ 40 ∧ n2 ≤ 40 ∧ m ≤ 120
  · by_cases h4 : n4 ≤ 40
    · exact pages3_main A n c A2 n2 c2 Ac Pe A3 m c3 R W ch A4 n4 c4 l i x g w hl hb hc hl2 hb2 hc2 hl3 hb3 hc3 hl4 hb4 hc4 ⟨hG.1, hG.2.1, hG.2.2, h4⟩
    · exact pages3_long A n c A2 n2 c2 Ac Pe A3 m c3 R W ch A4 n4 c4 l i x g w hl hb hc hl2 hb2 hc2 hl3 hb3 hc3 hl4 hb4 hc4 hG h4
  · exact pages3_great A n c A2 n2 c2 Ac Pe A3 m c3 R W ch A4 n4 c4 l i x g w hl hb hc hl2 hb2 hc2 hl3 hb3 hc3 hl4 hb4 hc4 hG
end Go.Proofs.Ytamajedopofcoaa
