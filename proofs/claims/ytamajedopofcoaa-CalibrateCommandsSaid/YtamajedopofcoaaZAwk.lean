/-
  The contract of awake. No condition.
-/
import Derived.Test.YtamajedopofcoaaZUni
import Derived.Test.YtamajedopofcoaaZCmd2
import Derived.Test.YtamajedopofcoaaZE
set_option linter.unusedVariables false
set_option linter.unusedSimpArgs false
namespace Go.Proofs.Ytamajedopofcoaa
open Go.RowKit
set_option maxRecDepth 100000 in
set_option maxHeartbeats 16000000 in
theorem awake6 (w : World) : Calls Try.prog 6 #[] w fun r w' => r = .returned (.bool true) ∧ Below w.heap.size w w' := by
  have K1 := fun b0 w h => new8u (some ⟨b0, 0, none⟩) 2 2 [10, 20] w rfl h (Nat.le_refl _) (by omega)
  rw [show newM [10, 20] = (⟨[10, 20], [10, 20], 0, -1, []⟩, 0) from rfl] at K1
  have K2 := fun A c A2 c2 A3 c3 w i1 hc i2 hc2 i3 hc3 => wri15u A 2 c A2 2 c2 0 (-1) A3 0 c3 [10, 20] [10, 20] [] 1 99 w rfl i1 hc rfl i2 hc2 rfl i3 hc3 (by omega) (by omega) (by omega)
  rw [show wriM ⟨[10, 20], [10, 20], 0, -1, []⟩ 1 99 = (⟨[10, 20], [10, 20], 0, -1, [(1, 99)]⟩, 0) from rfl] at K2
  have K3 := fun A c A2 c2 A3 c3 w i1 hc i2 hc2 i3 hc3 => sel17u A 2 c A2 2 c2 0 (-1) A3 1 c3 [10, 20] [10, 20] [(1, 99)] 1 w rfl i1 hc rfl i2 hc2 rfl i3 hc3 (by omega) (by omega) (by omega)
  rw [show selM ⟨[10, 20], [10, 20], 0, -1, [(1, 99)]⟩ 1 = (⟨[10, 20], [10, 20], 0, 1, [(1, 99)]⟩, 0) from rfl] at K3
  have K4 := fun A c A2 c2 A3 c3 w i1 hc i2 hc2 i3 hc3 => read13 A 2 c A2 2 c2 0 1 A3 1 c3 [10, 20] [10, 20] [(1, 99)] 1 w rfl i1 hc rfl i2 hc2 rfl i3 hc3 (by omega) (by omega) (by omega)
  rw [show readM ⟨[10, 20], [10, 20], 0, 1, [(1, 99)]⟩ 1 = (20, 0) from rfl] at K4
  have K5 := fun A c A2 c2 A3 c3 w i1 hc i2 hc2 i3 hc3 => com19u A 2 c A2 2 c2 0 1 A3 1 c3 [10, 20] [10, 20] [(1, 99)] w rfl i1 hc rfl i2 hc2 rfl i3 hc3 (by omega) (by omega) (by omega)
  rw [show comM ⟨[10, 20], [10, 20], 0, 1, [(1, 99)]⟩ = (⟨[10, 20], [10, 99], 1, -1, []⟩, 0) from rfl] at K5
  have K6 := fun A c A2 c2 A3 c3 (b o : Nat) w i1 hc i2 hc2 i3 hc3 h1 h2 h3 hbl => com22_read A 2 c A2 2 c2 1 (-1) A3 0 c3 [10, 20] [10, 99] [] b o 3 0 1 99 w rfl i1 hc rfl i2 hc2 rfl i3 hc3 (by omega) (by omega) (by omega) rfl h1 h2 h3 hbl (by omega) (by omega) (by omega) (by omega) (by omega) (by omega) (by omega) rfl
  replace K1 := Lib.hid K1
  replace K2 := Lib.hid K2
  replace K3 := Lib.hid K3
  replace K4 := Lib.hid K4
  replace K5 := Lib.hid K5
  replace K6 := Lib.hid K6
  go_enter Try.func6, Try.ntmps6
  go_wp2_with fail
  refine (K1.out _ _ (Ik.of_block (k := .i64) (l := [10, 20]) (new_at rfl (.cells #[.int .i64 10, .int .i64 20] 3)))).mono ?_
  rintro r w1 h
  obtain ⟨A, c, A2, c2, A3, c3, rfl, hc, hc2, hc3, i1, i2, i3, f1, f2, f3, hb⟩ := PO.at h 2 2 0 rfl rfl rfl
  have HG1 := Lib.hid (chain (show Below w.heap.size w _ from (Below.refl _ _).alloc (Nat.le_refl _) _) hb)
  have HI1 := Lib.hid i1
  have HI2 := Lib.hid i2
  have HI3 := Lib.hid i3
  clear h i1 i2 i3 f1 f2 f3 hb K1
  go_upto_region 2 with fail
  obtain ⟨u1, hu1⟩ : ∃ wx, wx = w1.alloc (.cells #[.slice A 2 c, .slice A2 2 c2, .int .i64 0, .int .i64 (-1), .slice A3 0 c3] 25) := ⟨_, rfl⟩
  obtain ⟨P, hP⟩ : ∃ P, P = w1.heap.size := ⟨_, rfl⟩
  have al1 : Below w1.heap.size w1 u1 := by rw [hu1]; exact (Below.refl _ _).alloc (Nat.le_refl _) _
  have HC1 : Hid (Cl P u1 [.slice A 2 c, .slice A2 2 c2, .int .i64 0, .int .i64 (-1), .slice A3 0 c3]) := Lib.hid (by rw [hu1]; exact Cl.new hP [.slice A 2 c, .slice A2 2 c2, .int .i64 0, .int .i64 (-1), .slice A3 0 c3] 25)
  have HJ1 := Lib.hid (HI1.out.below al1)
  have HJ2 := Lib.hid (HI2.out.below al1)
  have HJ3 := Lib.hid (HI3.out.below al1)
  have HH1 := Lib.hid (chain HG1.out al1)
  have HPw := Lib.hid (show w.heap.size ≤ P by rw [hP]; exact HG1.out.size)
  rw [← hu1, ← hP]
  clear hu1 hP al1 HI1 HI2 HI3 HG1
  have p0 := HC1.out.c 0 rfl
  have p1 := HC1.out.c 1 rfl
  have p2 := HC1.out.c 2 rfl
  have p3 := HC1.out.c 3 rfl
  have p4 := HC1.out.c 4 rfl
  have q0 := HC1.out.f 0 rfl
  have q1 := HC1.out.f 1 rfl
  have q2 := HC1.out.f 2 rfl
  have q3 := HC1.out.f 3 rfl
  have q4 := HC1.out.f 4 rfl
  have zp := HC1.out.1
  go_wp2_with fail
  refine (K2.out _ _ _ _ _ _ _ HJ1.out hc HJ2.out hc2 HJ3.out hc3).mono ?_
  rintro r w2 h
  obtain ⟨B2, d2, C2, e2, D2, g2, rfl, hd2, he2, hg2, i1, i2, i3, f1, f2, f3, hb⟩ := PO.at h 2 2 1 rfl rfl rfl
  clear h p0 p1 p2 p3 p4 q0 q1 q2 q3 q4 zp
  have HM := Lib.hid (HC1.out.below hb)
  have HGm := Lib.hid (chain HH1.out hb)
  have hPl := HC1.out.1
  have p0 := HM.out.c 0 rfl
  have p1 := HM.out.c 1 rfl
  have p2 := HM.out.c 2 rfl
  have p3 := HM.out.c 3 rfl
  have p4 := HM.out.c 4 rfl
  have q0 := HM.out.f 0 rfl
  have q1 := HM.out.f 1 rfl
  have q2 := HM.out.f 2 rfl
  have q3 := HM.out.f 3 rfl
  have q4 := HM.out.f 4 rfl
  have zp := HM.out.1
  go_upto_region 3 with fail
  obtain ⟨u2, hu⟩ : ∃ wx, wx = ((((((w2).setCell ⟨P, 0, none⟩ (.slice B2 2 d2)).setCell ⟨P, 1, none⟩ (.slice C2 2 e2)).setCell ⟨P, 2, none⟩ (.int .i64 0)).setCell ⟨P, 3, none⟩ (.int .i64 (-1))).setCell ⟨P, 4, none⟩ (.slice D2 1 g2)) := ⟨_, rfl⟩
  have HC2 : Hid (Cl P u2 [.slice B2 2 d2, .slice C2 2 e2, .int .i64 0, .int .i64 (-1), .slice D2 1 g2]) := Lib.hid (by rw [hu]; exact HM.out.set5 _ _ _ _ _)
  replace HJ1 := Lib.hid (show Ik .i64 u2 B2 _ by rw [hu]; exact i1.fr5 f1 hPl _ _ _ _ _)
  replace HJ2 := Lib.hid (show Ik .i64 u2 C2 _ by rw [hu]; exact i2.fr5 f2 hPl _ _ _ _ _)
  replace HJ3 := Lib.hid (show Ik .i64 u2 D2 _ by rw [hu]; exact i3.fr5 f3 hPl _ _ _ _ _)
  have HH2 : Hid (Below w.heap.size w u2) := Lib.hid (by rw [hu]; exact below_set5 HGm.out HPw.out _ _ _ _ _)
  rw [← hu]
  clear hu i1 i2 i3 f1 f2 f3 hb p0 p1 p2 p3 p4 q0 q1 q2 q3 q4 zp HM HGm hPl hc hc2 hc3 HC1 HH1 K2
  have hc := hd2
  have hc2 := he2
  have hc3 := hg2
  clear hd2 he2 hg2
  have p0 := HC2.out.c 0 rfl
  have p1 := HC2.out.c 1 rfl
  have p2 := HC2.out.c 2 rfl
  have p3 := HC2.out.c 3 rfl
  have p4 := HC2.out.c 4 rfl
  have q0 := HC2.out.f 0 rfl
  have q1 := HC2.out.f 1 rfl
  have q2 := HC2.out.f 2 rfl
  have q3 := HC2.out.f 3 rfl
  have q4 := HC2.out.f 4 rfl
  have zp := HC2.out.1
  go_wp2_with fail
  refine (K3.out _ _ _ _ _ _ _ HJ1.out hc HJ2.out hc2 HJ3.out hc3).mono ?_
  rintro r w3 h
  obtain ⟨B3, d3, C3, e3, D3, g3, rfl, hd3, he3, hg3, i1, i2, i3, f1, f2, f3, hb⟩ := PO.at h 2 2 1 rfl rfl rfl
  clear h p0 p1 p2 p3 p4 q0 q1 q2 q3 q4 zp
  have HM := Lib.hid (HC2.out.below hb)
  have HGm := Lib.hid (chain HH2.out hb)
  have hPl := HC2.out.1
  have p0 := HM.out.c 0 rfl
  have p1 := HM.out.c 1 rfl
  have p2 := HM.out.c 2 rfl
  have p3 := HM.out.c 3 rfl
  have p4 := HM.out.c 4 rfl
  have q0 := HM.out.f 0 rfl
  have q1 := HM.out.f 1 rfl
  have q2 := HM.out.f 2 rfl
  have q3 := HM.out.f 3 rfl
  have q4 := HM.out.f 4 rfl
  have zp := HM.out.1
  go_upto_region 4 with fail
  obtain ⟨u3, hu⟩ : ∃ wx, wx = ((((((w3).setCell ⟨P, 0, none⟩ (.slice B3 2 d3)).setCell ⟨P, 1, none⟩ (.slice C3 2 e3)).setCell ⟨P, 2, none⟩ (.int .i64 0)).setCell ⟨P, 3, none⟩ (.int .i64 1)).setCell ⟨P, 4, none⟩ (.slice D3 1 g3)) := ⟨_, rfl⟩
  have HC3 : Hid (Cl P u3 [.slice B3 2 d3, .slice C3 2 e3, .int .i64 0, .int .i64 1, .slice D3 1 g3]) := Lib.hid (by rw [hu]; exact HM.out.set5 _ _ _ _ _)
  replace HJ1 := Lib.hid (show Ik .i64 u3 B3 _ by rw [hu]; exact i1.fr5 f1 hPl _ _ _ _ _)
  replace HJ2 := Lib.hid (show Ik .i64 u3 C3 _ by rw [hu]; exact i2.fr5 f2 hPl _ _ _ _ _)
  replace HJ3 := Lib.hid (show Ik .i64 u3 D3 _ by rw [hu]; exact i3.fr5 f3 hPl _ _ _ _ _)
  have HH3 : Hid (Below w.heap.size w u3) := Lib.hid (by rw [hu]; exact below_set5 HGm.out HPw.out _ _ _ _ _)
  rw [← hu]
  clear hu i1 i2 i3 f1 f2 f3 hb p0 p1 p2 p3 p4 q0 q1 q2 q3 q4 zp HM HGm hPl hc hc2 hc3 HC2 HH2 K3
  have hc := hd3
  have hc2 := he3
  have hc3 := hg3
  clear hd3 he3 hg3
  have p0 := HC3.out.c 0 rfl
  have p1 := HC3.out.c 1 rfl
  have p2 := HC3.out.c 2 rfl
  have p3 := HC3.out.c 3 rfl
  have p4 := HC3.out.c 4 rfl
  have q0 := HC3.out.f 0 rfl
  have q1 := HC3.out.f 1 rfl
  have q2 := HC3.out.f 2 rfl
  have q3 := HC3.out.f 3 rfl
  have q4 := HC3.out.f 4 rfl
  have zp := HC3.out.1
  go_wp2_with fail
  refine (K4.out _ _ _ _ _ _ _ HJ1.out hc HJ2.out hc2 HJ3.out hc3).mono ?_
  rintro r u4 ⟨rfl, hb⟩
  have HC4 := Lib.hid (HC3.out.below hb)
  have HH4 := Lib.hid (chain HH3.out hb)
  replace HJ1 := Lib.hid (HJ1.out.below hb)
  replace HJ2 := Lib.hid (HJ2.out.below hb)
  replace HJ3 := Lib.hid (HJ3.out.below hb)
  clear p0 p1 p2 p3 p4 q0 q1 q2 q3 q4 zp HC3 HH3 hb K4
  go_upto_region 5 with fail
  have p0 := HC4.out.c 0 rfl
  have p1 := HC4.out.c 1 rfl
  have p2 := HC4.out.c 2 rfl
  have p3 := HC4.out.c 3 rfl
  have p4 := HC4.out.c 4 rfl
  have q0 := HC4.out.f 0 rfl
  have q1 := HC4.out.f 1 rfl
  have q2 := HC4.out.f 2 rfl
  have q3 := HC4.out.f 3 rfl
  have q4 := HC4.out.f 4 rfl
  have zp := HC4.out.1
  go_wp2_with fail
  refine (K5.out _ _ _ _ _ _ _ HJ1.out hc HJ2.out hc2 HJ3.out hc3).mono ?_
  rintro r w5 h
  obtain ⟨B5, d5, C5, e5, D5, g5, rfl, hd5, he5, hg5, i1, i2, i3, f1, f2, f3, hb⟩ := PO.at h 2 2 0 rfl rfl rfl
  clear h p0 p1 p2 p3 p4 q0 q1 q2 q3 q4 zp
  have HM := Lib.hid (HC4.out.below hb)
  have HGm := Lib.hid (chain HH4.out hb)
  have hPl := HC4.out.1
  have p0 := HM.out.c 0 rfl
  have p1 := HM.out.c 1 rfl
  have p2 := HM.out.c 2 rfl
  have p3 := HM.out.c 3 rfl
  have p4 := HM.out.c 4 rfl
  have q0 := HM.out.f 0 rfl
  have q1 := HM.out.f 1 rfl
  have q2 := HM.out.f 2 rfl
  have q3 := HM.out.f 3 rfl
  have q4 := HM.out.f 4 rfl
  have zp := HM.out.1
  go_upto_region 6 with fail
  obtain ⟨u5, hu⟩ : ∃ wx, wx = ((((((w5).setCell ⟨P, 0, none⟩ (.slice B5 2 d5)).setCell ⟨P, 1, none⟩ (.slice C5 2 e5)).setCell ⟨P, 2, none⟩ (.int .i64 1)).setCell ⟨P, 3, none⟩ (.int .i64 (-1))).setCell ⟨P, 4, none⟩ (.slice D5 0 g5)) := ⟨_, rfl⟩
  have HC5 : Hid (Cl P u5 [.slice B5 2 d5, .slice C5 2 e5, .int .i64 1, .int .i64 (-1), .slice D5 0 g5]) := Lib.hid (by rw [hu]; exact HM.out.set5 _ _ _ _ _)
  replace HJ1 := Lib.hid (show Ik .i64 u5 B5 _ by rw [hu]; exact i1.fr5 f1 hPl _ _ _ _ _)
  replace HJ2 := Lib.hid (show Ik .i64 u5 C5 _ by rw [hu]; exact i2.fr5 f2 hPl _ _ _ _ _)
  replace HJ3 := Lib.hid (show Ik .i64 u5 D5 _ by rw [hu]; exact i3.fr5 f3 hPl _ _ _ _ _)
  have HH5 : Hid (Below w.heap.size w u5) := Lib.hid (by rw [hu]; exact below_set5 HGm.out HPw.out _ _ _ _ _)
  rw [← hu]
  clear hu i1 i2 i3 f1 f2 f3 hb p0 p1 p2 p3 p4 q0 q1 q2 q3 q4 zp HM HGm hPl hc hc2 hc3 HC4 HH4 K5
  have hc := hd5
  have hc2 := he5
  have hc3 := hg5
  clear hd5 he5 hg5
  have p0 := HC5.out.c 0 rfl
  have p1 := HC5.out.c 1 rfl
  have p2 := HC5.out.c 2 rfl
  have p3 := HC5.out.c 3 rfl
  have p4 := HC5.out.c 4 rfl
  have q0 := HC5.out.f 0 rfl
  have q1 := HC5.out.f 1 rfl
  have q2 := HC5.out.f 2 rfl
  have q3 := HC5.out.f 3 rfl
  have q4 := HC5.out.f 4 rfl
  have zp := HC5.out.1
  go_wp2_with fail
  have al5 : Below u5.heap.size u5 (u5.alloc (.cells #[.int .u8 1, .int .u8 0, .int .u8 1] 5)) := (Below.refl _ _).alloc (Nat.le_refl _) _
  have HQ := Ik.of_block (k := .u8) (l := [1, 0, 1]) (new_at (W := u5) rfl (.cells #[.int .u8 1, .int .u8 0, .int .u8 1] 5))
  refine (K6.out _ _ _ _ _ _ _ 0 _ (HJ1.out.below al5) hc (HJ2.out.below al5) hc2 (HJ3.out.below al5) hc3 (HQ.at 0 (by decide)).1 (HQ.at 1 (by decide)).1 (HQ.at 2 (by decide)).1 (HQ.at 0 (by decide)).2).mono ?_
  rintro r w6 ⟨X1, k1, X2, k2, X3, k3, B, cB, rfl, hcB, hB, hb⟩
  have HG6 := Lib.hid (chain (chain HH5.out al5) hb)
  have HB6 := Lib.hid (show Ik .u8 w6 B [255, 0, 0, 0, 0, 0, 0, 0, 99] from hB)
  clear p0 p1 p2 p3 p4 q0 q1 q2 q3 q4 zp HJ1 HJ2 HJ3 HH5 HC5 al5 HQ hB hb K6
  go_wp2_with fail
  have al6 : Below w6.heap.size w6 (w6.alloc (.cells #[.slice X1 2 k1, .slice X2 2 k2, .int .i64 1, .int .i64 (-1), .slice X3 0 k3] 25)) := (Below.refl _ _).alloc (Nat.le_refl _) _
  have al7 : Below w6.heap.size w6 ((w6.alloc (.cells #[.slice X1 2 k1, .slice X2 2 k2, .int .i64 1, .int .i64 (-1), .slice X3 0 k3] 25)).alloc (.cells #[.int .u8 255, .int .u8 0, .int .u8 0, .int .u8 0, .int .u8 0, .int .u8 0, .int .u8 0, .int .u8 0, .int .u8 99] 5)) := chain al6 ((Below.refl _ _).alloc (Nat.le_refl _) _)
  have HQ7 : Ik .u8 ((w6.alloc (.cells #[.slice X1 2 k1, .slice X2 2 k2, .int .i64 1, .int .i64 (-1), .slice X3 0 k3] 25)).alloc (.cells #[.int .u8 255, .int .u8 0, .int .u8 0, .int .u8 0, .int .u8 0, .int .u8 0, .int .u8 0, .int .u8 0, .int .u8 99] 5)) (some ⟨w6.heap.size + 1, 0, none⟩) [255, 0, 0, 0, 0, 0, 0, 0, 99] := Ik.of_block (k := .u8) (l := [255, 0, 0, 0, 0, 0, 0, 0, 99]) (new_at (by simp) (.cells #[.int .u8 255, .int .u8 0, .int .u8 0, .int .u8 0, .int .u8 0, .int .u8 0, .int .u8 0, .int .u8 0, .int .u8 99] 5))
  refine (equal25 _ _ _ _ _ [255, 0, 0, 0, 0, 0, 0, 0, 99] _ rfl (HB6.out.below al7) HQ7).mono ?_
  rintro r w7 ⟨rfl, rfl⟩
  have HG7 := Lib.hid (chain HG6.out al7)
  clear al6 al7 HB6 HG6 HQ7
  go_wp2
  go_ret
  exact ⟨rfl, HG7.out⟩
end Go.Proofs.Ytamajedopofcoaa
