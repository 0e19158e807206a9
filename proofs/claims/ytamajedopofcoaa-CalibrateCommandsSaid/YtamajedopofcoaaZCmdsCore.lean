/-
  The law CalibrateCommands. No condition but the slices' shape.
-/
import Derived.Test.YtamajedopofcoaaZBthC
import Derived.Test.YtamajedopofcoaaZAwk
import Derived.Test.YtamajedopofcoaaZE
set_option linter.unusedVariables false
set_option linter.unusedSimpArgs false
namespace Go.Proofs.Ytamajedopofcoaa
open Go.RowKit
set_option maxRecDepth 100000 in
set_option maxHeartbeats 16000000 in
theorem cmds4_great (A : Option Addr) (n c : Nat) (A2 : Option Addr) (n2 c2 : Nat) (Ac Pe : Int) (A3 : Option Addr) (m c3 : Nat) (R W : List Int) (ch : List (Int × Int)) (A4 : Option Addr) (mm c4 : Nat) (l : List MV) (B : Option Addr) (nb c5 : Nat) (bs : List Int) (w : World) (hl : R.length = n) (hb : Ik .i64 w A R) (hc : n ≤ c) (hl2 : W.length = n2) (hb2 : Ik .i64 w A2 W) (hc2 : n2 ≤ c2) (hl3 : ch.length = m) (hb3 : Ik .i64 w A3 (flat ch)) (hc3 : m ≤ c3) (hlm : l.length = mm) (hcv : Cv w A4 (flatM l)) (hmo : Mo [] w l) (hcm : mm ≤ c4) (hbs : bs.length = nb) (hB : Ik .u8 w B bs) (hr8 : ∀ x ∈ bs, 0 ≤ x ∧ x ≤ 255) (hc5 : nb ≤ c5) (hgr : (decide (40 < n) || decide (40 < n2) || decide (120 < m)) = true) : Calls Try.prog 4 #[.agg #[.slice A n c, .slice A2 n2 c2, .int .i64 Ac, .int .i64 Pe, .slice A3 m c3], .slice A4 mm c4, .slice B nb c5] w (fun r w' => r = .returned (.bool true) ∧ Below w.heap.size w w') := by
  have HP0 := Lib.hid (Cl.new (w := w) rfl [.slice A n c, .slice A2 n2 c2, .int .i64 Ac, .int .i64 Pe, .slice A3 m c3] 25)
  have HG0 := Lib.hid (show Below w.heap.size w (w.alloc (.cells #[.slice A n c, .slice A2 n2 c2, .int .i64 Ac, .int .i64 Pe, .slice A3 m c3] 25)) from (Below.refl _ _).alloc (Nat.le_refl _) _)
  have K7 := fun w => great7 A n c A2 n2 c2 Ac Pe A3 m c3 R W ch w
  rw [hgr] at K7
  replace K7 := Lib.hid K7
  clear hl hl2 hl3 hb hb2 hb3 hlm hcv hmo hbs hB hr8 hgr
  go_enter Try.func4, Try.ntmps4
  go_wp2_with fail
  refine (awake6 _).mono ?_
  rintro r w1 ⟨rfl, hbw1⟩
  have HP1 := Lib.hid (HP0.out.below hbw1)
  have HG1 := Lib.hid (chain HG0.out hbw1)
  clear hbw1 HP0 HG0
  have p0 := HP1.out.c 0 rfl
  have p1 := HP1.out.c 1 rfl
  have p2 := HP1.out.c 2 rfl
  have p3 := HP1.out.c 3 rfl
  have p4 := HP1.out.c 4 rfl
  have zp := HP1.out.1
  go_wp2_with fail
  refine (K7.out _).mono ?_
  rintro r w2 ⟨rfl, hbw2⟩
  have HP2 := Lib.hid (HP1.out.below hbw2)
  have HG2 := Lib.hid (chain HG1.out hbw2)
  clear hbw2 HP1 HG1
  clear p0 p1 p2 p3 p4 zp K7
  go_wp2
  go_ret
  exact ⟨rfl, HG2.out⟩
set_option maxRecDepth 100000 in
set_option maxHeartbeats 16000000 in
theorem cmds4_many (A : Option Addr) (n c : Nat) (A2 : Option Addr) (n2 c2 : Nat) (Ac Pe : Int) (A3 : Option Addr) (m c3 : Nat) (R W : List Int) (ch : List (Int × Int)) (A4 : Option Addr) (mm c4 : Nat) (l : List MV) (B : Option Addr) (nb c5 : Nat) (bs : List Int) (w : World) (hl : R.length = n) (hb : Ik .i64 w A R) (hc : n ≤ c) (hl2 : W.length = n2) (hb2 : Ik .i64 w A2 W) (hc2 : n2 ≤ c2) (hl3 : ch.length = m) (hb3 : Ik .i64 w A3 (flat ch)) (hc3 : m ≤ c3) (hlm : l.length = mm) (hcv : Cv w A4 (flatM l)) (hmo : Mo [] w l) (hcm : mm ≤ c4) (hbs : bs.length = nb) (hB : Ik .u8 w B bs) (hr8 : ∀ x ∈ bs, 0 ≤ x ∧ x ≤ 255) (hc5 : nb ≤ c5) (hgr : (decide (40 < n) || decide (40 < n2) || decide (120 < m)) = false) (hmn : (decide (12 < mm) || l.any bN) = true) : Calls Try.prog 4 #[.agg #[.slice A n c, .slice A2 n2 c2, .int .i64 Ac, .int .i64 Pe, .slice A3 m c3], .slice A4 mm c4, .slice B nb c5] w (fun r w' => r = .returned (.bool true) ∧ Below w.heap.size w w') := by
  have HP0 := Lib.hid (Cl.new (w := w) rfl [.slice A n c, .slice A2 n2 c2, .int .i64 Ac, .int .i64 Pe, .slice A3 m c3] 25)
  have HG0 := Lib.hid (show Below w.heap.size w (w.alloc (.cells #[.slice A n c, .slice A2 n2 c2, .int .i64 Ac, .int .i64 Pe, .slice A3 m c3] 25)) from (Below.refl _ _).alloc (Nat.le_refl _) _)
  have K7 := fun w => great7 A n c A2 n2 c2 Ac Pe A3 m c3 R W ch w
  rw [hgr] at K7
  replace K7 := Lib.hid K7
  have KN := fun w h h' => many21 A4 mm c4 l w hlm h h' hcm
  rw [hmn] at KN
  replace KN := Lib.hid KN
  have HCV := Lib.hid hcv
  have HMO := Lib.hid hmo
  clear hl hl2 hl3 hb hb2 hb3 hlm hcv hmo hbs hB hr8 hgr hmn
  go_enter Try.func4, Try.ntmps4
  go_wp2_with fail
  refine (awake6 _).mono ?_
  rintro r w1 ⟨rfl, hbw1⟩
  have HP1 := Lib.hid (HP0.out.below hbw1)
  have HG1 := Lib.hid (chain HG0.out hbw1)
  clear hbw1 HP0 HG0
  have p0 := HP1.out.c 0 rfl
  have p1 := HP1.out.c 1 rfl
  have p2 := HP1.out.c 2 rfl
  have p3 := HP1.out.c 3 rfl
  have p4 := HP1.out.c 4 rfl
  have zp := HP1.out.1
  go_wp2_with fail
  refine (K7.out _).mono ?_
  rintro r w2 ⟨rfl, hbw2⟩
  have HP2 := Lib.hid (HP1.out.below hbw2)
  have HG2 := Lib.hid (chain HG1.out hbw2)
  clear hbw2 HP1 HG1
  clear p0 p1 p2 p3 p4 zp K7
  go_wp2_with fail
  refine (KN.out _ (HCV.out.below HG2.out) (HMO.out.below HG2.out)).mono ?_
  rintro r w3 ⟨rfl, hbw3⟩
  have HP3 := Lib.hid (HP2.out.below hbw3)
  have HG3 := Lib.hid (chain HG2.out hbw3)
  clear hbw3 HP2 HG2
  clear KN
  go_wp2
  go_ret
  exact ⟨rfl, HG3.out⟩
set_option maxRecDepth 100000 in
set_option maxHeartbeats 16000000 in
theorem cmds4_long (A : Option Addr) (n c : Nat) (A2 : Option Addr) (n2 c2 : Nat) (Ac Pe : Int) (A3 : Option Addr) (m c3 : Nat) (R W : List Int) (ch : List (Int × Int)) (A4 : Option Addr) (mm c4 : Nat) (l : List MV) (B : Option Addr) (nb c5 : Nat) (bs : List Int) (w : World) (hl : R.length = n) (hb : Ik .i64 w A R) (hc : n ≤ c) (hl2 : W.length = n2) (hb2 : Ik .i64 w A2 W) (hc2 : n2 ≤ c2) (hl3 : ch.length = m) (hb3 : Ik .i64 w A3 (flat ch)) (hc3 : m ≤ c3) (hlm : l.length = mm) (hcv : Cv w A4 (flatM l)) (hmo : Mo [] w l) (hcm : mm ≤ c4) (hbs : bs.length = nb) (hB : Ik .u8 w B bs) (hr8 : ∀ x ∈ bs, 0 ≤ x ∧ x ≤ 255) (hc5 : nb ≤ c5) (hgr : (decide (40 < n) || decide (40 < n2) || decide (120 < m)) = false) (hmn : (decide (12 < mm) || l.any bN) = false) (hnb : 300 < nb) : Calls Try.prog 4 #[.agg #[.slice A n c, .slice A2 n2 c2, .int .i64 Ac, .int .i64 Pe, .slice A3 m c3], .slice A4 mm c4, .slice B nb c5] w (fun r w' => r = .returned (.bool true) ∧ Below w.heap.size w w') := by
  have d3 : decide (300 < (nb : Int)) = true := by simp; omega
  have HP0 := Lib.hid (Cl.new (w := w) rfl [.slice A n c, .slice A2 n2 c2, .int .i64 Ac, .int .i64 Pe, .slice A3 m c3] 25)
  have HG0 := Lib.hid (show Below w.heap.size w (w.alloc (.cells #[.slice A n c, .slice A2 n2 c2, .int .i64 Ac, .int .i64 Pe, .slice A3 m c3] 25)) from (Below.refl _ _).alloc (Nat.le_refl _) _)
  have K7 := fun w => great7 A n c A2 n2 c2 Ac Pe A3 m c3 R W ch w
  rw [hgr] at K7
  replace K7 := Lib.hid K7
  have KN := fun w h h' => many21 A4 mm c4 l w hlm h h' hcm
  rw [hmn] at KN
  replace KN := Lib.hid KN
  have HCV := Lib.hid hcv
  have HMO := Lib.hid hmo
  clear hl hl2 hl3 hb hb2 hb3 hlm hcv hmo hbs hB hr8 hgr hmn hnb
  go_enter Try.func4, Try.ntmps4
  go_wp2_with fail
  refine (awake6 _).mono ?_
  rintro r w1 ⟨rfl, hbw1⟩
  have HP1 := Lib.hid (HP0.out.below hbw1)
  have HG1 := Lib.hid (chain HG0.out hbw1)
  clear hbw1 HP0 HG0
  have p0 := HP1.out.c 0 rfl
  have p1 := HP1.out.c 1 rfl
  have p2 := HP1.out.c 2 rfl
  have p3 := HP1.out.c 3 rfl
  have p4 := HP1.out.c 4 rfl
  have zp := HP1.out.1
  go_wp2_with fail
  refine (K7.out _).mono ?_
  rintro r w2 ⟨rfl, hbw2⟩
  have HP2 := Lib.hid (HP1.out.below hbw2)
  have HG2 := Lib.hid (chain HG1.out hbw2)
  clear hbw2 HP1 HG1
  clear p0 p1 p2 p3 p4 zp K7
  go_wp2_with fail
  refine (KN.out _ (HCV.out.below HG2.out) (HMO.out.below HG2.out)).mono ?_
  rintro r w3 ⟨rfl, hbw3⟩
  have HP3 := Lib.hid (HP2.out.below hbw3)
  have HG3 := Lib.hid (chain HG2.out hbw3)
  clear hbw3 HP2 HG2
  clear KN
  go_wp2
  go_ret
  exact ⟨rfl, HG3.out⟩
set_option maxRecDepth 100000 in
set_option maxHeartbeats 16000000 in
theorem cmds4_main (A : Option Addr) (n c : Nat) (A2 : Option Addr) (n2 c2 : Nat) (Ac Pe : Int) (A3 : Option Addr) (m c3 : Nat) (R W : List Int) (ch : List (Int × Int)) (A4 : Option Addr) (mm c4 : Nat) (l : List MV) (B : Option Addr) (nb c5 : Nat) (bs : List Int) (w : World) (hl : R.length = n) (hb : Ik .i64 w A R) (hc : n ≤ c) (hl2 : W.length = n2) (hb2 : Ik .i64 w A2 W) (hc2 : n2 ≤ c2) (hl3 : ch.length = m) (hb3 : Ik .i64 w A3 (flat ch)) (hc3 : m ≤ c3) (hlm : l.length = mm) (hcv : Cv w A4 (flatM l)) (hmo : Mo [] w l) (hcm : mm ≤ c4) (hbs : bs.length = nb) (hB : Ik .u8 w B bs) (hr8 : ∀ x ∈ bs, 0 ≤ x ∧ x ≤ 255) (hc5 : nb ≤ c5) (hgr : (decide (40 < n) || decide (40 < n2) || decide (120 < m)) = false) (hmn : (decide (12 < mm) || l.any bN) = false) (hnb : nb ≤ 300) (hboth : Both A n c A2 n2 c2 Ac Pe A3 m c3 R W ch A4 mm c4 l B nb c5 w) : Calls Try.prog 4 #[.agg #[.slice A n c, .slice A2 n2 c2, .int .i64 Ac, .int .i64 Pe, .slice A3 m c3], .slice A4 mm c4, .slice B nb c5] w (fun r w' => r = .returned (.bool true) ∧ Below w.heap.size w w') := by
  have d3 : decide (300 < (nb : Int)) = false := by simp; omega
  obtain ⟨⟨Rq, Wq, Acq, Peq, Chq⟩, ms, an, ⟨z1, z2, z3, z4, z5⟩, hall⟩ := hboth
  simp only at z1 z2 z3
  have K22 := Lib.hid (fun w1 hw => (hall w1 hw).1)
  have K23 := Lib.hid (fun w1 hw => (hall w1 hw).2)
  have K10 := Lib.hid (fun (X1 Y1 : Option Addr) (k1 j1 : Nat) (X2 Y2 : Option Addr) (k2 j2 : Nat) (X3 Y3 : Option Addr) (k3 j3 : Nat) w a1 b1 c1 d1 a2 b2 c2 d2 a3 b3 c3 d3 => same10 X1 Y1 Rq.length k1 j1 X2 Y2 Wq.length k2 j2 Acq Peq X3 Y3 Chq.length k3 j3 Rq Wq Chq w rfl a1 b1 c1 d1 rfl a2 b2 c2 d2 rfl a3 b3 c3 d3 z1 z2 z3)
  have HZ := Lib.hid (And.intro z4 z5)
  have HP0 := Lib.hid (Cl.new (w := w) rfl [.slice A n c, .slice A2 n2 c2, .int .i64 Ac, .int .i64 Pe, .slice A3 m c3] 25)
  have HG0 := Lib.hid (show Below w.heap.size w (w.alloc (.cells #[.slice A n c, .slice A2 n2 c2, .int .i64 Ac, .int .i64 Pe, .slice A3 m c3] 25)) from (Below.refl _ _).alloc (Nat.le_refl _) _)
  have K7 := fun w => great7 A n c A2 n2 c2 Ac Pe A3 m c3 R W ch w
  rw [hgr] at K7
  replace K7 := Lib.hid K7
  have KN := fun w h h' => many21 A4 mm c4 l w hlm h h' hcm
  rw [hmn] at KN
  replace KN := Lib.hid KN
  have HCV := Lib.hid hcv
  have HMO := Lib.hid hmo
  clear hl hl2 hl3 hb hb2 hb3 hlm hcv hmo hbs hB hr8 hgr hmn hnb hall z1 z2 z3 z4 z5
  go_enter Try.func4, Try.ntmps4
  go_wp2_with fail
  refine (awake6 _).mono ?_
  rintro r w1 ⟨rfl, hbw1⟩
  have HP1 := Lib.hid (HP0.out.below hbw1)
  have HG1 := Lib.hid (chain HG0.out hbw1)
  clear hbw1 HP0 HG0
  have p0 := HP1.out.c 0 rfl
  have p1 := HP1.out.c 1 rfl
  have p2 := HP1.out.c 2 rfl
  have p3 := HP1.out.c 3 rfl
  have p4 := HP1.out.c 4 rfl
  have zp := HP1.out.1
  go_wp2_with fail
  refine (K7.out _).mono ?_
  rintro r w2 ⟨rfl, hbw2⟩
  have HP2 := Lib.hid (HP1.out.below hbw2)
  have HG2 := Lib.hid (chain HG1.out hbw2)
  clear hbw2 HP1 HG1
  clear p0 p1 p2 p3 p4 zp K7
  go_wp2_with fail
  refine (KN.out _ (HCV.out.below HG2.out) (HMO.out.below HG2.out)).mono ?_
  rintro r w3 ⟨rfl, hbw3⟩
  have HP3 := Lib.hid (HP2.out.below hbw3)
  have HG3 := Lib.hid (chain HG2.out hbw3)
  clear hbw3 HP2 HG2
  clear KN
  have p0 := HP3.out.c 0 rfl
  have p1 := HP3.out.c 1 rfl
  have p2 := HP3.out.c 2 rfl
  have p3 := HP3.out.c 3 rfl
  have p4 := HP3.out.c 4 rfl
  have zp := HP3.out.1
  go_wp2_with fail
  refine (K22.out _ HG3.out).mono ?_
  rintro r w4 ⟨X1, k1, X2, k2, X3, k3, A5, c6, Bq, cq, rfl, hk, hI, hLO, hIB, hcq, hbw4⟩
  have HK1 := Lib.hid hk
  have HI1 := Lib.hid hI
  have HL1 := Lib.hid hLO
  have HB1 := Lib.hid hIB
  have HP4 := Lib.hid (HP3.out.below hbw4)
  have HG4 := Lib.hid (chain HG3.out hbw4)
  clear hbw4 HP3 HG3
  clear p0 p1 p2 p3 p4 zp hk hI hLO hIB K22
  have HT4 := Lib.hid (Cl.new (w := w4) rfl [.slice X1 Rq.length k1, .slice X2 Wq.length k2, .int .i64 Acq, .int .i64 Peq, .slice X3 Chq.length k3] 25)
  have hbwa : Below w4.heap.size w4 (w4.alloc (.cells #[.slice X1 Rq.length k1, .slice X2 Wq.length k2, .int .i64 Acq, .int .i64 Peq, .slice X3 Chq.length k3] 25)) := (Below.refl _ _).alloc (Nat.le_refl _) _
  have HIA := Lib.hid (show Ik .i64 (w4.alloc (.cells #[.slice X1 Rq.length k1, .slice X2 Wq.length k2, .int .i64 Acq, .int .i64 Peq, .slice X3 Chq.length k3] 25)) X1 Rq ∧ Ik .i64 (w4.alloc (.cells #[.slice X1 Rq.length k1, .slice X2 Wq.length k2, .int .i64 Acq, .int .i64 Peq, .slice X3 Chq.length k3] 25)) X2 Wq ∧ Ik .i64 (w4.alloc (.cells #[.slice X1 Rq.length k1, .slice X2 Wq.length k2, .int .i64 Acq, .int .i64 Peq, .slice X3 Chq.length k3] 25)) X3 (flat Chq) from ⟨HI1.out.1.below hbwa, HI1.out.2.1.below hbwa, HI1.out.2.2.below hbwa⟩)
  have HLA := Lib.hid (HL1.out.below hbwa)
  have HBA := Lib.hid (HB1.out.below hbwa)
  have HP5 := Lib.hid (HP4.out.below hbwa)
  have HG5 := Lib.hid (chain HG4.out hbwa)
  clear hbwa HP4 HG4
  clear HI1 HL1 HB1
  have p0 := HP5.out.c 0 rfl
  have p1 := HP5.out.c 1 rfl
  have p2 := HP5.out.c 2 rfl
  have p3 := HP5.out.c 3 rfl
  have p4 := HP5.out.c 4 rfl
  have zp := HP5.out.1
  go_wp2_with fail
  refine (K23.out _ HG5.out).mono ?_
  rintro r w5 ⟨Y1, j1, Y2, j2, Y3, j3, A6, c7, Br, cr, rfl, hk, hI, hLO, hIB, hcr, hbw5⟩
  have HK2 := Lib.hid hk
  have hbw6 : Below w5.heap.size w5 (w5.alloc (.cells #[.slice Y1 Rq.length j1, .slice Y2 Wq.length j2, .int .i64 Acq, .int .i64 Peq, .slice Y3 Chq.length j3] 25)) := (Below.refl _ _).alloc (Nat.le_refl _) _
  have hb56 := chain hbw5 hbw6
  have HU6 := Lib.hid (Cl.new (w := w5) rfl [.slice Y1 Rq.length j1, .slice Y2 Wq.length j2, .int .i64 Acq, .int .i64 Peq, .slice Y3 Chq.length j3] 25)
  have HT6 := Lib.hid (HT4.out.below hb56)
  have HI1 := Lib.hid (And.intro (HIA.out.1.below hb56) (And.intro (HIA.out.2.1.below hb56) (HIA.out.2.2.below hb56)))
  have HL1 := Lib.hid (HLA.out.below hb56)
  have HB1 := Lib.hid (HBA.out.below hb56)
  have HI2 := Lib.hid (And.intro (hI.1.below hbw6) (And.intro (hI.2.1.below hbw6) (hI.2.2.below hbw6)))
  have HL2 := Lib.hid (hLO.below hbw6)
  have HB2 := Lib.hid (hIB.below hbw6)
  have HG6 := Lib.hid (chain HG5.out hb56)
  clear p0 p1 p2 p3 p4 zp hk hI hLO hIB K23 HIA HLA HBA HT4 HP5 HG5 hbw5 hbw6 hb56
  obtain ⟨w6, hw6⟩ : ∃ x, x = w5.alloc (.cells #[.slice Y1 Rq.length j1, .slice Y2 Wq.length j2, .int .i64 Acq, .int .i64 Peq, .slice Y3 Chq.length j3] 25) := ⟨_, rfl⟩
  obtain ⟨T, hT⟩ : ∃ T, T = w4.heap.size := ⟨_, rfl⟩
  obtain ⟨U, hU⟩ : ∃ T, T = w5.heap.size := ⟨_, rfl⟩
  rw [← hw6] at HU6 HT6 HI1 HL1 HB1 HI2 HL2 HB2 HG6
  rw [← hT] at HT6
  rw [← hU] at HU6
  go_upto_region 7 with fail
  rw [← hw6, ← hT, ← hU]
  clear hw6 hT hU
  obtain ⟨l1, e1, g1, v1, _, o1⟩ := HL1.out
  obtain ⟨l2, e2, g2, v2, _, o2⟩ := HL2.out
  have hl1 : l1.length = ms.length := by rw [← e1, List.length_map]
  have K24 := Lib.hid (fun w h1 h2 h3 h4 => lists24 A5 A6 ms.length c6 c7 l1 l2 w hl1 (e1.trans e2.symm) h1 h2 h3 h4 g1 g2 HZ.out.1 (fun x hx => HZ.out.2 _ (by rw [← e1]; exact List.mem_map.2 ⟨x, hx, rfl⟩)))
  have HV1 := Lib.hid v1
  have HV2 := Lib.hid v2
  have HO1 := Lib.hid o1
  have HO2 := Lib.hid o2
  clear e1 g1 v1 o1 e2 g2 v2 o2 hl1 HL1 HL2 HZ
  have t0 := HT6.out.c 0 rfl
  have t1 := HT6.out.c 1 rfl
  have t2 := HT6.out.c 2 rfl
  have t3 := HT6.out.c 3 rfl
  have t4 := HT6.out.c 4 rfl
  have u0 := HU6.out.c 0 rfl
  have u1 := HU6.out.c 1 rfl
  have u2 := HU6.out.c 2 rfl
  have u3 := HU6.out.c 3 rfl
  have u4 := HU6.out.c 4 rfl
  have zt := HT6.out.1
  have zu := HU6.out.1
  go_wp2_with fail
  refine (K10.out _ _ _ _ _ _ _ _ _ _ _ _ _ HI1.out.1 HI2.out.1 HK1.out.1 HK2.out.1 HI1.out.2.1 HI2.out.2.1 HK1.out.2.1 HK2.out.2.1 HI1.out.2.2 HI2.out.2.2 HK1.out.2.2 HK2.out.2.2).mono ?_
  rintro r w7 ⟨rfl, hbw7⟩
  have HB17 := Lib.hid (HB1.out.below hbw7)
  have HB27 := Lib.hid (HB2.out.below hbw7)
  have HG7 := Lib.hid (chain HG6.out hbw7)
  clear t0 t1 t2 t3 t4 u0 u1 u2 u3 u4 zt zu HT6 HU6 HG6 HI1 HI2 HB1 HB2 K10
  go_wp2_with fail
  refine (K24.out _ (HV1.out.below hbw7) (HV2.out.below hbw7) (HO1.out.below hbw7) (HO2.out.below hbw7)).mono ?_
  rintro r w8 ⟨rfl, hbw8⟩
  have HG8 := Lib.hid (chain HG7.out hbw8)
  go_wp2_with fail
  refine (equal25 Bq Br an.length cq cr an _ rfl (HB17.out.below hbw8) (HB27.out.below hbw8)).mono ?_
  rintro r w9 ⟨rfl, rfl⟩
  clear hbw7 hbw8 HG7 HB17 HB27 K24 HV1 HV2 HO1 HO2
  go_wp2
  go_ret
  exact ⟨rfl, HG8.out⟩
theorem cmds4 (A : Option Addr) (n c : Nat) (A2 : Option Addr) (n2 c2 : Nat) (Ac Pe : Int) (A3 : Option Addr) (m c3 : Nat) (R W : List Int) (ch : List (Int × Int)) (A4 : Option Addr) (mm c4 : Nat) (l : List MV) (B : Option Addr) (nb c5 : Nat) (bs : List Int) (w : World) (hl : R.length = n) (hb : Ik .i64 w A R) (hc : n ≤ c) (hl2 : W.length = n2) (hb2 : Ik .i64 w A2 W) (hc2 : n2 ≤ c2) (hl3 : ch.length = m) (hb3 : Ik .i64 w A3 (flat ch)) (hc3 : m ≤ c3) (hlm : l.length = mm) (hcv : Cv w A4 (flatM l)) (hmo : Mo [] w l) (hcm : mm ≤ c4) (hbs : bs.length = nb) (hB : Ik .u8 w B bs) (hr8 : ∀ x ∈ bs, 0 ≤ x ∧ x ≤ 255) (hc5 : nb ≤ c5) : Calls Try.prog 4 #[.agg #[.slice A n c, .slice A2 n2 c2, .int .i64 Ac, .int .i64 Pe, .slice A3 m c3], .slice A4 mm c4, .slice B nb c5] w (fun r w' => r = .returned (.bool true) ∧ Below w.heap.size w w') := by
  rcases hgr : (decide (40 < n) || decide (40 < n2) || decide (120 < m)) with _ | _
  · rcases hmn : (decide (12 < mm) || l.any bN) with _ | _
    · by_cases hnb : nb ≤ 300
      · refine cmds4_main A n c A2 n2 c2 Ac Pe A3 m c3 R W ch A4 mm c4 l B nb c5 bs w hl hb hc hl2 hb2 hc2 hl3 hb3 hc3 hlm hcv hmo hcm hbs hB hr8 hc5 hgr hmn hnb (both_all (bs := bs) ?_)
        have hg2 : n ≤ 40 ∧ n2 ≤ 40 ∧ m ≤ 120 := by
          simp only [Bool.or_eq_false_iff, decide_eq_false_iff_not] at hgr
          omega
        have hm2 : mm ≤ 12 ∧ l.any bN = false := by
          simp only [Bool.or_eq_false_iff, decide_eq_false_iff_not] at hmn
          exact ⟨by omega, hmn.2⟩
        refine ⟨hl, hb, hc, hl2, hb2, hc2, hl3, hb3, hc3, by omega, by omega, by omega, hlm, hcv, hmo, hcm, by omega, fun x hx => ?_, hbs, hB, hr8, hc5⟩
        have h := hm2.2
        rw [List.any_eq_false] at h
        have := h x hx
        simp only [bN, decide_eq_true_eq] at this
        omega
      · exact cmds4_long A n c A2 n2 c2 Ac Pe A3 m c3 R W ch A4 mm c4 l B nb c5 bs w hl hb hc hl2 hb2 hc2 hl3 hb3 hc3 hlm hcv hmo hcm hbs hB hr8 hc5 hgr hmn (by omega)
    · exact cmds4_many A n c A2 n2 c2 Ac Pe A3 m c3 R W ch A4 mm c4 l B nb c5 bs w hl hb hc hl2 hb2 hc2 hl3 hb3 hc3 hlm hcv hmo hcm hbs hB hr8 hc5 hgr hmn
  · exact cmds4_great A n c A2 n2 c2 Ac Pe A3 m c3 R W ch A4 mm c4 l B nb c5 bs w hl hb hc hl2 hb2 hc2 hl3 hb3 hc3 hlm hcv hmo hcm hbs hB hr8 hc5 hgr
end Go.Proofs.Ytamajedopofcoaa
