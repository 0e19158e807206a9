/-
  The law TransportSenders of every input. No condition but the slices' shape.
-/
import Derived.Test.YtfjeediecmhedaaSndsCore
set_option linter.unusedVariables false
set_option linter.unusedSimpArgs false
namespace Go.Proofs.Ytfjeediecmhedaa
open Go.RowKit
set_option maxRecDepth 100000 in
set_option maxHeartbeats 16000000 in
theorem senders_ok (A : Option Addr) (n c : Nat) (At Nu Bl Se : Int) (Wt : Bool) (Gp Dl : Int) (Fl : Bool) (l : List Int) (F : Option Addr) (m cF : Nat) (f : List Int) (t : Int) (w : World) (hl : l.length = n) (hb : Bt w A l) (hc : n ≤ c) (hfl : f.length = m) (hfb : Bt w F f) (hfB : Byt f) (hfc : m ≤ cF) (h : ¬ 1100 < n) (hm : ¬ 20 < m) (hv : vS n At Nu Bl Se Wt Gp Dl Fl = true) (ht : timeB t = true) : Calls Try.prog 8 #[.agg #[.slice A n c, .int .i64 At, .int .i64 Nu, .int .i64 Bl, .int .i64 Se, .bool Wt, .int .i64 Gp, .int .i64 Dl, .bool Fl], .slice F m cF, .int .i64 t] w fun x w' => x = .returned (.bool true) ∧ Below w.heap.size w w' := by
  have LG := fun w => long15 A n c w
  rw [decide_eq_false h] at LG
  replace LG := Lib.hid LG
  have hm' : decide ((20 : Int) < (m : Int)) = false := by simp; omega
  obtain ⟨N, hN⟩ : ∃ S, S = (nxtM ⟨l, At, Nu, Bl, Se, Wt, Gp, Dl, Fl⟩ t).1 := ⟨_, rfl⟩
  obtain ⟨fr, hfr⟩ : ∃ fr, fr = (nxtM ⟨l, At, Nu, Bl, Se, Wt, Gp, Dl, Fl⟩ t).2.1 := ⟨_, rfl⟩
  obtain ⟨ee, hee⟩ : ∃ ee, ee = (nxtM ⟨l, At, Nu, Bl, Se, Wt, Gp, Dl, Fl⟩ t).2.2 := ⟨_, rfl⟩
  obtain ⟨C, hC⟩ : ∃ S, S = (ctlM ⟨l, At, Nu, Bl, Se, Wt, Gp, Dl, Fl⟩ f t).1 := ⟨_, rfl⟩
  obtain ⟨ce, hce⟩ : ∃ S, S = (ctlM ⟨l, At, Nu, Bl, Se, Wt, Gp, Dl, Fl⟩ f t).2 := ⟨_, rfl⟩
  obtain ⟨E, hE⟩ : ∃ S, S = expM ⟨l, At, Nu, Bl, Se, Wt, Gp, Dl, Fl⟩ t := ⟨_, rfl⟩
  have K1 : ∀ w, Bt w A l → Calls Try.prog 28 #[.agg #[.slice A n c, .int .i64 At, .int .i64 Nu, .int .i64 Bl, .int .i64 Se, .bool Wt, .int .i64 Gp, .int .i64 Dl, .bool Fl], .int .i64 t] w (S3 N fr ee w) := fun w h => by rw [hN, hfr, hee]; exact next28 A n c At Nu Bl Se Wt Gp Dl Fl l t w hl h hc hv ht
  have K2 : ∀ w, Bt w A l → Calls Try.prog 31 #[.agg #[.slice A n c, .int .i64 At, .int .i64 Nu, .int .i64 Bl, .int .i64 Se, .bool Wt, .int .i64 Gp, .int .i64 Dl, .bool Fl], .int .i64 t] w (S3 N fr ee w) := fun w h => by rw [hN, hfr, hee]; exact rnext31 A n c At Nu Bl Se Wt Gp Dl Fl l t w hl h hc hv ht
  have C1 : ∀ w, Bt w A l → Bt w F f → Calls Try.prog 27 #[.agg #[.slice A n c, .int .i64 At, .int .i64 Nu, .int .i64 Bl, .int .i64 Se, .bool Wt, .int .i64 Gp, .int .i64 Dl, .bool Fl], .slice F m cF, .int .i64 t] w (S2 C ce w) := fun w h h2 => by rw [hC, hce]; exact ctl27 A n c At Nu Bl Se Wt Gp Dl Fl l F m cF f t w hl h hc hfl h2 hfB hfc hv ht
  have C2 : ∀ w, Bt w A l → Bt w F f → Calls Try.prog 32 #[.agg #[.slice A n c, .int .i64 At, .int .i64 Nu, .int .i64 Bl, .int .i64 Se, .bool Wt, .int .i64 Gp, .int .i64 Dl, .bool Fl], .slice F m cF, .int .i64 t] w (S2 C ce w) := fun w h h2 => by rw [hC, hce]; exact rctl32 A n c At Nu Bl Se Wt Gp Dl Fl l F m cF f t w hl h hc hfl h2 hfB hfc hv ht
  have E1 : ∀ w, Bt w A l → Calls Try.prog 29 #[.agg #[.slice A n c, .int .i64 At, .int .i64 Nu, .int .i64 Bl, .int .i64 Se, .bool Wt, .int .i64 Gp, .int .i64 Dl, .bool Fl], .int .i64 t] w (S1 E w) := fun w h => by rw [hE]; exact exp29 A n c At Nu Bl Se Wt Gp Dl Fl l t w hl h hc hv ht
  have E2 : ∀ w, Bt w A l → Calls Try.prog 33 #[.agg #[.slice A n c, .int .i64 At, .int .i64 Nu, .int .i64 Bl, .int .i64 Se, .bool Wt, .int .i64 Gp, .int .i64 Dl, .bool Fl], .int .i64 t] w (S1 E w) := fun w h => by rw [hE]; exact rexp33 A n c At Nu Bl Se Wt Gp Dl Fl l t w hl h hc hv ht
  have SN := fun A B n c d w => same20 A B n c d N.At N.Nu N.Bl N.Se N.Wt N.Gp N.Dl N.Fl N.l w
  have SC := fun A B n c d w => same20 A B n c d C.At C.Nu C.Bl C.Se C.Wt C.Gp C.Dl C.Fl C.l w
  have SE := fun A B n c d w => same20 A B n c d E.At E.Nu E.Bl E.Se E.Wt E.Gp E.Dl E.Fl E.l w
  have V := fun w => refS30 A n c At Nu Bl Se Wt Gp Dl Fl w
  rw [hv] at V
  have U := fun w => time21 t w
  rw [ht] at U
  replace K1 := Lib.hid K1
  replace K2 := Lib.hid K2
  replace C1 := Lib.hid C1
  replace C2 := Lib.hid C2
  replace E1 := Lib.hid E1
  replace E2 := Lib.hid E2
  replace SN := Lib.hid SN
  replace SC := Lib.hid SC
  replace SE := Lib.hid SE
  replace V := Lib.hid V
  replace U := Lib.hid U
  have HFB := Lib.hid hfb
  have HB := Lib.hid hb
  clear hN hfr hee hC hce hE hl hb hfl hfb hfB h hm hv ht
  go_enter Try.func8, Try.ntmps8
  go_wp2_with fail
  refine (awake10 _).mono ?_
  rintro x w1 ⟨rfl, hb1⟩
  have hg1 := chain (w := w) (by go_grown) hb1
  have P1 := (Cl.new (w := w) rfl [.slice A n c, .int .i64 At, .int .i64 Nu, .int .i64 Bl, .int .i64 Se, .bool Wt, .int .i64 Gp, .int .i64 Dl, .bool Fl] 40).below hb1
  have HP := Lib.hid P1
  have HG := Lib.hid hg1
  have HS := Lib.hid hg1.size
  clear P1 hb1 hg1
  have p0 := HP.out.c 0 rfl
  have p1 := HP.out.c 1 rfl
  have p2 := HP.out.c 2 rfl
  have p3 := HP.out.c 3 rfl
  have p4 := HP.out.c 4 rfl
  have p5 := HP.out.c 5 rfl
  have p6 := HP.out.c 6 rfl
  have p7 := HP.out.c 7 rfl
  have p8 := HP.out.c 8 rfl
  have zp := HP.out.1
  go_wp2_with fail
  refine (LG.out _).mono ?_
  rintro x w2 ⟨rfl, rfl⟩
  go_wp2_with fail
  refine (K1.out _ (HB.out.below HG.out)).mono ?_
  rintro x w2 ⟨A2, n2, c2, B2, m2, d2, rfl, hn2, hc2, hbt2, _, hm2, hd2, hbf2, _, hb2⟩
  have HN2 := Lib.hid hn2
  have HM2 := Lib.hid hm2
  clear hn2 hm2
  have hh2 : Below w1.heap.size w1 w2 := hb2
  have hg2 := chain HG.out hb2
  have P2 := HP.out.below hh2
  clear p0 p1 p2 p3 p4 p5 p6 p7 p8 zp
  clear HP HG HS
  have TN2 := hbt2
  have TF2 := hbf2
  have HP := Lib.hid P2
  have HTN := Lib.hid TN2
  have HTF := Lib.hid TF2
  have HG := Lib.hid hg2
  have HS := Lib.hid hg2.size
  clear hg2 hh2 hb2 P2 TN2 TF2
  clear hbt2 hbf2
  have p0 := HP.out.c 0 rfl
  have p1 := HP.out.c 1 rfl
  have p2 := HP.out.c 2 rfl
  have p3 := HP.out.c 3 rfl
  have p4 := HP.out.c 4 rfl
  have p5 := HP.out.c 5 rfl
  have p6 := HP.out.c 6 rfl
  have p7 := HP.out.c 7 rfl
  have p8 := HP.out.c 8 rfl
  have zp := HP.out.1
  go_wp2_with fail
  refine (C1.out _ (HB.out.below ((show Below w.heap.size w w2 from HG.out).alloc HS.out _)) (HFB.out.below ((show Below w.heap.size w w2 from HG.out).alloc HS.out _))).mono ?_
  rintro x w3 ⟨A3, n3, c3, rfl, hn3, hc3, hbt3, _, hb3⟩
  have HN3 := Lib.hid hn3
  clear hn3
  have hh3 : Below w2.heap.size w2 w3 := ((Below.refl _ _).alloc (Nat.le_refl _) (.cells #[.slice A2 n2 c2, .int .i64 N.At, .int .i64 N.Nu, .int .i64 N.Bl, .int .i64 N.Se, .bool N.Wt, .int .i64 N.Gp, .int .i64 N.Dl, .bool N.Fl] 40) : Below w2.heap.size w2 (w2.alloc (.cells #[.slice A2 n2 c2, .int .i64 N.At, .int .i64 N.Nu, .int .i64 N.Bl, .int .i64 N.Se, .bool N.Wt, .int .i64 N.Gp, .int .i64 N.Dl, .bool N.Fl] 40))).trans (hb3.mono (by simp))
  have hg3 := chain (HG.out.alloc HS.out (.cells #[.slice A2 n2 c2, .int .i64 N.At, .int .i64 N.Nu, .int .i64 N.Bl, .int .i64 N.Se, .bool N.Wt, .int .i64 N.Gp, .int .i64 N.Dl, .bool N.Fl] 40)) hb3
  have P3 := HP.out.below hh3
  have X3 := (Cl.new (w := w2) rfl [.slice A2 n2 c2, .int .i64 N.At, .int .i64 N.Nu, .int .i64 N.Bl, .int .i64 N.Se, .bool N.Wt, .int .i64 N.Gp, .int .i64 N.Dl, .bool N.Fl] 40).below hb3
  have TN3 := HTN.out.below hh3
  have TF3 := HTF.out.below hh3
  clear p0 p1 p2 p3 p4 p5 p6 p7 p8 zp
  clear HP HTN HTF HG HS
  have TC3 := hbt3
  have HP := Lib.hid P3
  have HX := Lib.hid X3
  have HTN := Lib.hid TN3
  have HTF := Lib.hid TF3
  have HTC := Lib.hid TC3
  have HG := Lib.hid hg3
  have HS := Lib.hid hg3.size
  clear hg3 hh3 hb3 P3 X3 TN3 TF3 TC3
  clear hbt3
  have p0 := HP.out.c 0 rfl
  have p1 := HP.out.c 1 rfl
  have p2 := HP.out.c 2 rfl
  have p3 := HP.out.c 3 rfl
  have p4 := HP.out.c 4 rfl
  have p5 := HP.out.c 5 rfl
  have p6 := HP.out.c 6 rfl
  have p7 := HP.out.c 7 rfl
  have p8 := HP.out.c 8 rfl
  have zp := HP.out.1
  go_wp2_with fail
  refine (E1.out _ (HB.out.below ((show Below w.heap.size w w3 from HG.out).alloc HS.out _))).mono ?_
  rintro x w4 ⟨A4, n4, c4, rfl, hn4, hc4, hbt4, hb4⟩
  have HN4 := Lib.hid hn4
  clear hn4
  have hh4 : Below w3.heap.size w3 w4 := ((Below.refl _ _).alloc (Nat.le_refl _) (.cells #[.slice A3 n3 c3, .int .i64 C.At, .int .i64 C.Nu, .int .i64 C.Bl, .int .i64 C.Se, .bool C.Wt, .int .i64 C.Gp, .int .i64 C.Dl, .bool C.Fl] 40) : Below w3.heap.size w3 (w3.alloc (.cells #[.slice A3 n3 c3, .int .i64 C.At, .int .i64 C.Nu, .int .i64 C.Bl, .int .i64 C.Se, .bool C.Wt, .int .i64 C.Gp, .int .i64 C.Dl, .bool C.Fl] 40))).trans (hb4.mono (by simp))
  have hg4 := chain (HG.out.alloc HS.out (.cells #[.slice A3 n3 c3, .int .i64 C.At, .int .i64 C.Nu, .int .i64 C.Bl, .int .i64 C.Se, .bool C.Wt, .int .i64 C.Gp, .int .i64 C.Dl, .bool C.Fl] 40)) hb4
  have P4 := HP.out.below hh4
  have X4 := HX.out.below hh4
  have Y4 := (Cl.new (w := w3) rfl [.slice A3 n3 c3, .int .i64 C.At, .int .i64 C.Nu, .int .i64 C.Bl, .int .i64 C.Se, .bool C.Wt, .int .i64 C.Gp, .int .i64 C.Dl, .bool C.Fl] 40).below hb4
  have TN4 := HTN.out.below hh4
  have TF4 := HTF.out.below hh4
  have TC4 := HTC.out.below hh4
  clear p0 p1 p2 p3 p4 p5 p6 p7 p8 zp
  clear HP HX HTN HTF HTC HG HS
  have TE4 := hbt4
  have HP := Lib.hid P4
  have HX := Lib.hid X4
  have HY := Lib.hid Y4
  have HTN := Lib.hid TN4
  have HTF := Lib.hid TF4
  have HTC := Lib.hid TC4
  have HTE := Lib.hid TE4
  have HG := Lib.hid hg4
  have HS := Lib.hid hg4.size
  clear hg4 hh4 hb4 P4 X4 Y4 TN4 TF4 TC4 TE4
  clear hbt4
  have p0 := HP.out.c 0 rfl
  have p1 := HP.out.c 1 rfl
  have p2 := HP.out.c 2 rfl
  have p3 := HP.out.c 3 rfl
  have p4 := HP.out.c 4 rfl
  have p5 := HP.out.c 5 rfl
  have p6 := HP.out.c 6 rfl
  have p7 := HP.out.c 7 rfl
  have p8 := HP.out.c 8 rfl
  have zp := HP.out.1
  go_wp2_with fail
  refine (V.out _).mono ?_
  rintro x w5 ⟨rfl, hb5⟩
  have hh5 : Below w4.heap.size w4 w5 := ((Below.refl _ _).alloc (Nat.le_refl _) (.cells #[.slice A4 n4 c4, .int .i64 E.At, .int .i64 E.Nu, .int .i64 E.Bl, .int .i64 E.Se, .bool E.Wt, .int .i64 E.Gp, .int .i64 E.Dl, .bool E.Fl] 40) : Below w4.heap.size w4 (w4.alloc (.cells #[.slice A4 n4 c4, .int .i64 E.At, .int .i64 E.Nu, .int .i64 E.Bl, .int .i64 E.Se, .bool E.Wt, .int .i64 E.Gp, .int .i64 E.Dl, .bool E.Fl] 40))).trans (hb5.mono (by simp))
  have hg5 := chain (HG.out.alloc HS.out (.cells #[.slice A4 n4 c4, .int .i64 E.At, .int .i64 E.Nu, .int .i64 E.Bl, .int .i64 E.Se, .bool E.Wt, .int .i64 E.Gp, .int .i64 E.Dl, .bool E.Fl] 40)) hb5
  have P5 := HP.out.below hh5
  have X5 := HX.out.below hh5
  have Y5 := HY.out.below hh5
  have Z5 := (Cl.new (w := w4) rfl [.slice A4 n4 c4, .int .i64 E.At, .int .i64 E.Nu, .int .i64 E.Bl, .int .i64 E.Se, .bool E.Wt, .int .i64 E.Gp, .int .i64 E.Dl, .bool E.Fl] 40).below hb5
  have TN5 := HTN.out.below hh5
  have TF5 := HTF.out.below hh5
  have TC5 := HTC.out.below hh5
  have TE5 := HTE.out.below hh5
  clear p0 p1 p2 p3 p4 p5 p6 p7 p8 zp
  clear HP HX HY HTN HTF HTC HTE HG HS
  have HP := Lib.hid P5
  have HX := Lib.hid X5
  have HY := Lib.hid Y5
  have HZ := Lib.hid Z5
  have HTN := Lib.hid TN5
  have HTF := Lib.hid TF5
  have HTC := Lib.hid TC5
  have HTE := Lib.hid TE5
  have HG := Lib.hid hg5
  have HS := Lib.hid hg5.size
  clear hg5 hh5 hb5 P5 X5 Y5 Z5 TN5 TF5 TC5 TE5
  have p0 := HP.out.c 0 rfl
  have p1 := HP.out.c 1 rfl
  have p2 := HP.out.c 2 rfl
  have p3 := HP.out.c 3 rfl
  have p4 := HP.out.c 4 rfl
  have p5 := HP.out.c 5 rfl
  have p6 := HP.out.c 6 rfl
  have p7 := HP.out.c 7 rfl
  have p8 := HP.out.c 8 rfl
  have zp := HP.out.1
  go_wp2_with fail
  refine (U.out _).mono ?_
  rintro x w6 ⟨rfl, rfl⟩
  go_wp2_with fail
  refine (K2.out _ (HB.out.below HG.out)).mono ?_
  rintro x w6 ⟨A6, n6, c6, B6, m6, d6, rfl, hn6, hc6, hbt6, _, hm6, hd6, hbf6, _, hb6⟩
  obtain rfl : n6 = n2 := by rw [hn6, HN2.out]
  obtain rfl : m6 = m2 := by rw [hm6, HM2.out]
  clear hn6 hm6
  have hh6 : Below w5.heap.size w5 w6 := hb6
  have hg6 := chain HG.out hb6
  have P6 := HP.out.below hh6
  have X6 := HX.out.below hh6
  have Y6 := HY.out.below hh6
  have Z6 := HZ.out.below hh6
  have TN6 := HTN.out.below hh6
  have TF6 := HTF.out.below hh6
  have TC6 := HTC.out.below hh6
  have TE6 := HTE.out.below hh6
  clear p0 p1 p2 p3 p4 p5 p6 p7 p8 zp
  clear HP HX HY HZ HTN HTF HTC HTE HG HS
  have RN6 := hbt6
  have RF6 := hbf6
  have HP := Lib.hid P6
  have HX := Lib.hid X6
  have HY := Lib.hid Y6
  have HZ := Lib.hid Z6
  have HTN := Lib.hid TN6
  have HTF := Lib.hid TF6
  have HTC := Lib.hid TC6
  have HTE := Lib.hid TE6
  have HRN := Lib.hid RN6
  have HRF := Lib.hid RF6
  have HG := Lib.hid hg6
  have HS := Lib.hid hg6.size
  clear hg6 hh6 hb6 P6 X6 Y6 Z6 TN6 TF6 TC6 TE6 RN6 RF6
  clear hbt6 hbf6
  have p0 := HP.out.c 0 rfl
  have p1 := HP.out.c 1 rfl
  have p2 := HP.out.c 2 rfl
  have p3 := HP.out.c 3 rfl
  have p4 := HP.out.c 4 rfl
  have p5 := HP.out.c 5 rfl
  have p6 := HP.out.c 6 rfl
  have p7 := HP.out.c 7 rfl
  have p8 := HP.out.c 8 rfl
  have zp := HP.out.1
  go_wp2_with fail
  refine (C2.out _ (HB.out.below ((show Below w.heap.size w w6 from HG.out).alloc HS.out _)) (HFB.out.below ((show Below w.heap.size w w6 from HG.out).alloc HS.out _))).mono ?_
  rintro x w7 ⟨A7, n7, c7, rfl, hn7, hc7, hbt7, _, hb7⟩
  obtain rfl : n7 = n3 := by rw [hn7, HN3.out]
  clear hn7
  have hh7 : Below w6.heap.size w6 w7 := ((Below.refl _ _).alloc (Nat.le_refl _) (.cells #[.slice A6 n6 c6, .int .i64 N.At, .int .i64 N.Nu, .int .i64 N.Bl, .int .i64 N.Se, .bool N.Wt, .int .i64 N.Gp, .int .i64 N.Dl, .bool N.Fl] 40) : Below w6.heap.size w6 (w6.alloc (.cells #[.slice A6 n6 c6, .int .i64 N.At, .int .i64 N.Nu, .int .i64 N.Bl, .int .i64 N.Se, .bool N.Wt, .int .i64 N.Gp, .int .i64 N.Dl, .bool N.Fl] 40))).trans (hb7.mono (by simp))
  have hg7 := chain (HG.out.alloc HS.out (.cells #[.slice A6 n6 c6, .int .i64 N.At, .int .i64 N.Nu, .int .i64 N.Bl, .int .i64 N.Se, .bool N.Wt, .int .i64 N.Gp, .int .i64 N.Dl, .bool N.Fl] 40)) hb7
  have P7 := HP.out.below hh7
  have X7 := HX.out.below hh7
  have Y7 := HY.out.below hh7
  have Z7 := HZ.out.below hh7
  have O7 := (Cl.new (w := w6) rfl [.slice A6 n6 c6, .int .i64 N.At, .int .i64 N.Nu, .int .i64 N.Bl, .int .i64 N.Se, .bool N.Wt, .int .i64 N.Gp, .int .i64 N.Dl, .bool N.Fl] 40).below hb7
  have TN7 := HTN.out.below hh7
  have TF7 := HTF.out.below hh7
  have TC7 := HTC.out.below hh7
  have TE7 := HTE.out.below hh7
  have RN7 := HRN.out.below hh7
  have RF7 := HRF.out.below hh7
  clear p0 p1 p2 p3 p4 p5 p6 p7 p8 zp
  clear HP HX HY HZ HTN HTF HTC HTE HRN HRF HG HS
  have RC7 := hbt7
  have HP := Lib.hid P7
  have HX := Lib.hid X7
  have HY := Lib.hid Y7
  have HZ := Lib.hid Z7
  have HO := Lib.hid O7
  have HTN := Lib.hid TN7
  have HTF := Lib.hid TF7
  have HTC := Lib.hid TC7
  have HTE := Lib.hid TE7
  have HRN := Lib.hid RN7
  have HRF := Lib.hid RF7
  have HRC := Lib.hid RC7
  have HG := Lib.hid hg7
  have HS := Lib.hid hg7.size
  clear hg7 hh7 hb7 P7 X7 Y7 Z7 O7 TN7 TF7 TC7 TE7 RN7 RF7 RC7
  clear hbt7
  have hA8 := ((Below.refl _ _).alloc (Nat.le_refl _) (.cells #[.slice A7 n7 c7, .int .i64 C.At, .int .i64 C.Nu, .int .i64 C.Bl, .int .i64 C.Se, .bool C.Wt, .int .i64 C.Gp, .int .i64 C.Dl, .bool C.Fl] 40) : Below w7.heap.size w7 (w7.alloc (.cells #[.slice A7 n7 c7, .int .i64 C.At, .int .i64 C.Nu, .int .i64 C.Bl, .int .i64 C.Se, .bool C.Wt, .int .i64 C.Gp, .int .i64 C.Dl, .bool C.Fl] 40)))
  have P8 := HP.out.below hA8
  have X8 := HX.out.below hA8
  have Y8 := HY.out.below hA8
  have Z8 := HZ.out.below hA8
  have O8 := HO.out.below hA8
  have TN8 := HTN.out.below hA8
  have TF8 := HTF.out.below hA8
  have TC8 := HTC.out.below hA8
  have TE8 := HTE.out.below hA8
  have RN8 := HRN.out.below hA8
  have RF8 := HRF.out.below hA8
  have RC8 := HRC.out.below hA8
  have Q8 := Cl.new (w := w7) rfl [.slice A7 n7 c7, .int .i64 C.At, .int .i64 C.Nu, .int .i64 C.Bl, .int .i64 C.Se, .bool C.Wt, .int .i64 C.Gp, .int .i64 C.Dl, .bool C.Fl] 40
  have I8 := (HB.out.below HG.out).below hA8
  have G8 := HG.out.alloc HS.out (.cells #[.slice A7 n7 c7, .int .i64 C.At, .int .i64 C.Nu, .int .i64 C.Bl, .int .i64 C.Se, .bool C.Wt, .int .i64 C.Gp, .int .i64 C.Dl, .bool C.Fl] 40)
  go_upto_region 16 with fail
  obtain ⟨w8, hw8⟩ : ∃ wx, wx = w7.alloc (.cells #[.slice A7 n7 c7, .int .i64 C.At, .int .i64 C.Nu, .int .i64 C.Bl, .int .i64 C.Se, .bool C.Wt, .int .i64 C.Gp, .int .i64 C.Dl, .bool C.Fl] 40) := ⟨_, rfl⟩
  rw [← hw8] at P8 X8 Y8 Z8 O8 TN8 TF8 TC8 TE8 RN8 RF8 RC8 Q8 I8 G8 ⊢
  clear hw8 hA8 HG HS HP HX HY HZ HO HTN HTF HTC HTE HRN HRF HRC
  have HP := Lib.hid P8
  have HX := Lib.hid X8
  have HY := Lib.hid Y8
  have HZ := Lib.hid Z8
  have HO := Lib.hid O8
  have HTN := Lib.hid TN8
  have HTF := Lib.hid TF8
  have HTC := Lib.hid TC8
  have HTE := Lib.hid TE8
  have HRN := Lib.hid RN8
  have HRF := Lib.hid RF8
  have HRC := Lib.hid RC8
  have HQ := Lib.hid Q8
  have HI := Lib.hid I8
  have HG := Lib.hid G8
  clear P8 X8 Y8 Z8 O8 TN8 TF8 TC8 TE8 RN8 RF8 RC8 Q8 I8 G8
  have p0 := HP.out.c 0 rfl
  have p1 := HP.out.c 1 rfl
  have p2 := HP.out.c 2 rfl
  have p3 := HP.out.c 3 rfl
  have p4 := HP.out.c 4 rfl
  have p5 := HP.out.c 5 rfl
  have p6 := HP.out.c 6 rfl
  have p7 := HP.out.c 7 rfl
  have p8 := HP.out.c 8 rfl
  have zp := HP.out.1
  have x0 := HX.out.c 0 rfl
  have x1 := HX.out.c 1 rfl
  have x2 := HX.out.c 2 rfl
  have x3 := HX.out.c 3 rfl
  have x4 := HX.out.c 4 rfl
  have x5 := HX.out.c 5 rfl
  have x6 := HX.out.c 6 rfl
  have x7 := HX.out.c 7 rfl
  have x8 := HX.out.c 8 rfl
  have zx := HX.out.1
  have y0 := HY.out.c 0 rfl
  have y1 := HY.out.c 1 rfl
  have y2 := HY.out.c 2 rfl
  have y3 := HY.out.c 3 rfl
  have y4 := HY.out.c 4 rfl
  have y5 := HY.out.c 5 rfl
  have y6 := HY.out.c 6 rfl
  have y7 := HY.out.c 7 rfl
  have y8 := HY.out.c 8 rfl
  have zy := HY.out.1
  have z0 := HZ.out.c 0 rfl
  have z1 := HZ.out.c 1 rfl
  have z2 := HZ.out.c 2 rfl
  have z3 := HZ.out.c 3 rfl
  have z4 := HZ.out.c 4 rfl
  have z5 := HZ.out.c 5 rfl
  have z6 := HZ.out.c 6 rfl
  have z7 := HZ.out.c 7 rfl
  have z8 := HZ.out.c 8 rfl
  have zz := HZ.out.1
  have o0 := HO.out.c 0 rfl
  have o1 := HO.out.c 1 rfl
  have o2 := HO.out.c 2 rfl
  have o3 := HO.out.c 3 rfl
  have o4 := HO.out.c 4 rfl
  have o5 := HO.out.c 5 rfl
  have o6 := HO.out.c 6 rfl
  have o7 := HO.out.c 7 rfl
  have o8 := HO.out.c 8 rfl
  have zo := HO.out.1
  have q0 := HQ.out.c 0 rfl
  have q1 := HQ.out.c 1 rfl
  have q2 := HQ.out.c 2 rfl
  have q3 := HQ.out.c 3 rfl
  have q4 := HQ.out.c 4 rfl
  have q5 := HQ.out.c 5 rfl
  have q6 := HQ.out.c 6 rfl
  have q7 := HQ.out.c 7 rfl
  have q8 := HQ.out.c 8 rfl
  have zq := HQ.out.1
  refine region_K (fun W' => (∀ b o, b < w8.heap.size → W'.cell? ⟨b, o, none⟩ = w8.cell? ⟨b, o, none⟩) ∧ Below w8.heap.size w8 W') 30 (by kernel_rfl) (Kp.mk (Below.refl _ _).drew) (fun hHeld => ?_)
  refine K_takeD (i := 0) (v := ?_) rfl (by kernel_rfl) (by kernel_rfl) (by kernel_rfl) (by kernel_rfl) (by kernel_rfl) (fun _ _ _ h => h) (Or.inl ⟨by kernel_rfl, ?_⟩) hHeld ?_
  rotate_left 1
  · intro W8 hSw
    (try dsimp only at hSw)
    go_simp
    all_goals with_reducible rfl
  try simp only [Act.put, List.setIfInBounds_toArray, List.set_cons_zero, List.set_cons_succ]
  refine K_takeD (i := 1) (v := ?_) rfl (by kernel_rfl) (by kernel_rfl) (by kernel_rfl) (by kernel_rfl) (by kernel_rfl) (fun _ _ _ h => h) (Or.inl ⟨by kernel_rfl, ?_⟩) hHeld ?_
  rotate_left 1
  · intro W8 hSw
    (try dsimp only at hSw)
    go_simp
    all_goals with_reducible rfl
  try simp only [Act.put, List.setIfInBounds_toArray, List.set_cons_zero, List.set_cons_succ]
  refine K_step' (i := 2) (by kernel_rfl) rfl (fun K hK => ?_)
  go_simp
  refine (SN.out A2 A6 n6 c2 c6 _ HN2.out.symm (HTN.out.below hHeld.2) (HRN.out.below hHeld.2)).mono ?_
  rintro x w9 ⟨rfl, hb9⟩
  refine hK.out _ _ (Kp.next hHeld hb9) (fun hHeld2 => ?_)
  clear hK K
  try simp only [Act.put, List.setIfInBounds_toArray, List.set_cons_zero, List.set_cons_succ]
  refine K_take' (i := 3) (v := ?_) rfl (by kernel_rfl) (by kernel_rfl) (by kernel_rfl) (by kernel_rfl) (fun _ _ _ h => h) (Or.inl ⟨by kernel_rfl, ?_⟩) hHeld2 ?_
  rotate_left 1
  · intro W8 hSw
    clear hSw
    go_simp
    all_goals with_reducible rfl
  try simp only [Act.put, List.setIfInBounds_toArray, List.set_cons_zero, List.set_cons_succ]
  refine K_take' (i := 4) (v := ?_) rfl (by kernel_rfl) (by kernel_rfl) (by kernel_rfl) (by kernel_rfl) (fun _ _ _ h => h) (Or.inl ⟨by kernel_rfl, ?_⟩) hHeld2 ?_
  rotate_left 1
  · intro W8 hSw
    clear hSw
    go_simp
    all_goals with_reducible rfl
  try simp only [Act.put, List.setIfInBounds_toArray, List.set_cons_zero, List.set_cons_succ]
  refine K_take' (i := 5) (v := ?_) rfl (by kernel_rfl) (by kernel_rfl) (by kernel_rfl) (by kernel_rfl) (fun _ _ _ h => h) (Or.inl ⟨by kernel_rfl, ?_⟩) hHeld2 ?_
  rotate_left 1
  · intro W8 hSw
    clear hSw
    go_simp
    all_goals with_reducible rfl
  try simp only [Act.put, List.setIfInBounds_toArray, List.set_cons_zero, List.set_cons_succ]
  refine K_step' (i := 6) (by kernel_rfl) rfl (fun K hK => ?_)
  go_simp
  refine (equal18 B2 B6 m6 d2 d6 fr _ HM2.out.symm (HTF.out.below hHeld2.2) (HRF.out.below hHeld2.2)).mono ?_
  rintro x w10 ⟨rfl, rfl⟩
  refine hK.out _ _ (hHeld2) (fun _hh => ?_)
  clear hK K
  try simp only [Act.put, List.setIfInBounds_toArray, List.set_cons_zero, List.set_cons_succ]
  refine K_take' (i := 7) (v := ?_) rfl (by kernel_rfl) (by kernel_rfl) (by kernel_rfl) (by kernel_rfl) (fun _ _ _ h => h) (Or.inl ⟨by kernel_rfl, ?_⟩) hHeld2 ?_
  rotate_left 1
  · intro W8 hSw
    clear hSw
    go_simp
    all_goals with_reducible rfl
  try simp only [Act.put, List.setIfInBounds_toArray, List.set_cons_zero, List.set_cons_succ]
  refine K_take' (i := 8) (v := ?_) rfl (by kernel_rfl) (by kernel_rfl) (by kernel_rfl) (by kernel_rfl) (fun _ _ _ h => h) (Or.inl ⟨by kernel_rfl, ?_⟩) hHeld2 ?_
  rotate_left 1
  · intro W8 hSw
    clear hSw
    go_simp
    all_goals with_reducible rfl
  try simp only [Act.put, List.setIfInBounds_toArray, List.set_cons_zero, List.set_cons_succ]
  refine K_take' (i := 9) (v := ?_) rfl (by kernel_rfl) (by kernel_rfl) (by kernel_rfl) (by kernel_rfl) (fun _ _ _ h => h) (Or.inl ⟨by kernel_rfl, ?_⟩) hHeld2 ?_
  rotate_left 1
  · intro W8 hSw
    clear hSw
    go_simp
    all_goals with_reducible rfl
  try simp only [Act.put, List.setIfInBounds_toArray, List.set_cons_zero, List.set_cons_succ]
  refine K_take' (i := 10) (v := ?_) rfl (by kernel_rfl) (by kernel_rfl) (by kernel_rfl) (by kernel_rfl) (fun _ _ _ h => h) (Or.inl ⟨by kernel_rfl, ?_⟩) hHeld2 ?_
  rotate_left 1
  · intro W8 hSw
    clear hSw
    go_simp
    all_goals with_reducible rfl
  try simp only [Act.put, List.setIfInBounds_toArray, List.set_cons_zero, List.set_cons_succ]
  refine K_take' (i := 11) (v := ?_) rfl (by kernel_rfl) (by kernel_rfl) (by kernel_rfl) (by kernel_rfl) (fun _ _ _ h => h) (Or.inl ⟨by kernel_rfl, ?_⟩) hHeld2 ?_
  rotate_left 1
  · intro W8 hSw
    clear hSw
    go_simp
    all_goals with_reducible rfl
  try simp only [Act.put, List.setIfInBounds_toArray, List.set_cons_zero, List.set_cons_succ]
  refine K_take' (i := 12) (v := ?_) rfl (by kernel_rfl) (by kernel_rfl) (by kernel_rfl) (by kernel_rfl) (fun _ _ _ h => h) (Or.inl ⟨by kernel_rfl, ?_⟩) hHeld2 ?_
  rotate_left 1
  · intro W8 hSw
    clear hSw
    go_simp
    all_goals with_reducible rfl
  try simp only [Act.put, List.setIfInBounds_toArray, List.set_cons_zero, List.set_cons_succ]
  refine K_take' (i := 13) (v := ?_) rfl (by kernel_rfl) (by kernel_rfl) (by kernel_rfl) (by kernel_rfl) (fun _ _ _ h => h) (Or.inl ⟨by kernel_rfl, ?_⟩) hHeld2 ?_
  rotate_left 1
  · intro W8 hSw
    clear hSw
    go_simp
    all_goals with_reducible rfl
  try simp only [Act.put, List.setIfInBounds_toArray, List.set_cons_zero, List.set_cons_succ]
  refine K_takeD (i := 14) (v := ?_) rfl (by kernel_rfl) (by kernel_rfl) (by kernel_rfl) (by kernel_rfl) (by kernel_rfl) (fun _ _ _ h => h) (Or.inl ⟨by kernel_rfl, ?_⟩) hHeld2 ?_
  rotate_left 1
  · intro W8 hSw
    (try dsimp only at hSw)
    go_simp
    all_goals with_reducible rfl
  try simp only [Act.put, List.setIfInBounds_toArray, List.set_cons_zero, List.set_cons_succ]
  refine K_takeD (i := 15) (v := ?_) rfl (by kernel_rfl) (by kernel_rfl) (by kernel_rfl) (by kernel_rfl) (by kernel_rfl) (fun _ _ _ h => h) (Or.inl ⟨by kernel_rfl, ?_⟩) hHeld2 ?_
  rotate_left 1
  · intro W8 hSw
    (try dsimp only at hSw)
    go_simp
    all_goals with_reducible rfl
  try simp only [Act.put, List.setIfInBounds_toArray, List.set_cons_zero, List.set_cons_succ]
  refine K_step' (i := 16) (by kernel_rfl) rfl (fun K hK => ?_)
  go_simp
  refine (SC.out A3 A7 n7 c3 c7 _ HN3.out.symm (HTC.out.below hHeld2.2) (HRC.out.below hHeld2.2)).mono ?_
  rintro x w10 ⟨rfl, hb10⟩
  refine hK.out _ _ (Kp.next hHeld2 hb10) (fun hHeld3 => ?_)
  clear hK K
  try simp only [Act.put, List.setIfInBounds_toArray, List.set_cons_zero, List.set_cons_succ]
  refine K_take' (i := 17) (v := ?_) rfl (by kernel_rfl) (by kernel_rfl) (by kernel_rfl) (by kernel_rfl) (fun _ _ _ h => h) (Or.inl ⟨by kernel_rfl, ?_⟩) hHeld3 ?_
  rotate_left 1
  · intro W8 hSw
    clear hSw
    go_simp
    all_goals with_reducible rfl
  try simp only [Act.put, List.setIfInBounds_toArray, List.set_cons_zero, List.set_cons_succ]
  refine K_take' (i := 18) (v := ?_) rfl (by kernel_rfl) (by kernel_rfl) (by kernel_rfl) (by kernel_rfl) (fun _ _ _ h => h) (Or.inl ⟨by kernel_rfl, ?_⟩) hHeld3 ?_
  rotate_left 1
  · intro W8 hSw
    clear hSw
    go_simp
    all_goals with_reducible rfl
  try simp only [Act.put, List.setIfInBounds_toArray, List.set_cons_zero, List.set_cons_succ]
  refine K_take' (i := 19) (v := ?_) rfl (by kernel_rfl) (by kernel_rfl) (by kernel_rfl) (by kernel_rfl) (fun _ _ _ h => h) (Or.inl ⟨by kernel_rfl, ?_⟩) hHeld3 ?_
  rotate_left 1
  · intro W8 hSw
    clear hSw
    go_simp
    all_goals with_reducible rfl
  try simp only [Act.put, List.setIfInBounds_toArray, List.set_cons_zero, List.set_cons_succ]
  refine K_take' (i := 20) (v := ?_) rfl (by kernel_rfl) (by kernel_rfl) (by kernel_rfl) (by kernel_rfl) (fun _ _ _ h => h) (Or.inl ⟨by kernel_rfl, ?_⟩) hHeld3 ?_
  rotate_left 1
  · intro W8 hSw
    clear hSw
    go_simp
    all_goals with_reducible rfl
  try simp only [Act.put, List.setIfInBounds_toArray, List.set_cons_zero, List.set_cons_succ]
  refine K_take' (i := 21) (v := ?_) rfl (by kernel_rfl) (by kernel_rfl) (by kernel_rfl) (by kernel_rfl) (fun _ _ _ h => h) (Or.inl ⟨by kernel_rfl, ?_⟩) hHeld3 ?_
  rotate_left 1
  · intro W8 hSw
    clear hSw
    go_simp
    all_goals with_reducible rfl
  try simp only [Act.put, List.setIfInBounds_toArray, List.set_cons_zero, List.set_cons_succ]
  refine K_take' (i := 22) (v := ?_) rfl (by kernel_rfl) (by kernel_rfl) (by kernel_rfl) (by kernel_rfl) (fun _ _ _ h => h) (Or.inl ⟨by kernel_rfl, ?_⟩) hHeld3 ?_
  rotate_left 1
  · intro W8 hSw
    clear hSw
    go_simp
    all_goals with_reducible rfl
  try simp only [Act.put, List.setIfInBounds_toArray, List.set_cons_zero, List.set_cons_succ]
  refine K_take' (i := 23) (v := ?_) rfl (by kernel_rfl) (by kernel_rfl) (by kernel_rfl) (by kernel_rfl) (fun _ _ _ h => h) (Or.inl ⟨by kernel_rfl, ?_⟩) hHeld3 ?_
  rotate_left 1
  · intro W8 hSw
    clear hSw
    go_simp
    all_goals with_reducible rfl
  try simp only [Act.put, List.setIfInBounds_toArray, List.set_cons_zero, List.set_cons_succ]
  refine K_takeD (i := 24) (v := ?_) rfl (by kernel_rfl) (by kernel_rfl) (by kernel_rfl) (by kernel_rfl) (by kernel_rfl) (fun _ _ _ h => h) (Or.inl ⟨by kernel_rfl, ?_⟩) hHeld3 ?_
  rotate_left 1
  · intro W8 hSw
    (try dsimp only at hSw)
    go_simp
    all_goals with_reducible rfl
  try simp only [Act.put, List.setIfInBounds_toArray, List.set_cons_zero, List.set_cons_succ]
  refine K_takeD (i := 25) (v := ?_) rfl (by kernel_rfl) (by kernel_rfl) (by kernel_rfl) (by kernel_rfl) (by kernel_rfl) (fun _ _ _ h => h) (Or.inl ⟨by kernel_rfl, ?_⟩) hHeld3 ?_
  rotate_left 1
  · intro W8 hSw
    (try dsimp only at hSw)
    go_simp
    all_goals with_reducible rfl
  try simp only [Act.put, List.setIfInBounds_toArray, List.set_cons_zero, List.set_cons_succ]
  refine K_take' (i := 26) (v := ?_) rfl (by kernel_rfl) (by kernel_rfl) (by kernel_rfl) (by kernel_rfl) (fun _ _ _ h => h) (Or.inl ⟨by kernel_rfl, ?_⟩) hHeld3 ?_
  rotate_left 1
  · intro W8 hSw
    clear hSw
    go_simp
    all_goals with_reducible rfl
  try simp only [Act.put, List.setIfInBounds_toArray, List.set_cons_zero, List.set_cons_succ]
  refine K_step' (i := 27) (by kernel_rfl) rfl (fun K hK => ?_)
  go_simp
  refine (E2.out _ (HI.out.below hHeld3.2)).mono ?_
  rintro x w11 ⟨A9, n9, c9, rfl, hn9, hc9, hbt9, hb11⟩
  obtain rfl : n9 = n4 := by rw [hn9, HN4.out]
  clear hn9
  refine hK.out _ _ (Kp.next hHeld3 hb11) (fun hHeld4 => ?_)
  clear hK K
  try simp only [Act.put, List.setIfInBounds_toArray, List.set_cons_zero, List.set_cons_succ]
  refine K_step' (i := 28) (by kernel_rfl) rfl (fun K hK => ?_)
  go_simp
  refine (SE.out A4 A9 n9 c4 c9 _ HN4.out.symm (HTE.out.below hHeld4.2) hbt9).mono ?_
  rintro x w12 ⟨rfl, hb12⟩
  refine hK.out _ _ (Kp.next hHeld4 hb12) (fun hHeld5 => ?_)
  clear hK K
  try simp only [Act.put, List.setIfInBounds_toArray, List.set_cons_zero, List.set_cons_succ]
  refine K_take' (i := 29) (v := ?_) rfl (by kernel_rfl) (by kernel_rfl) (by kernel_rfl) (by kernel_rfl) (fun _ _ _ h => h) (Or.inl ⟨by kernel_rfl, ?_⟩) hHeld5 ?_
  rotate_left 1
  · intro W8 hSw
    clear hSw
    go_simp
    all_goals with_reducible rfl
  try simp only [Act.put, List.setIfInBounds_toArray, List.set_cons_zero, List.set_cons_succ]
  have G12 := chain HG.out hHeld5.2
  have HG12 := Lib.hid G12
  clear hHeld hHeld2 hHeld3 hHeld4 hHeld5 G12 hbt9 hb9 hb10 hb11 hb12
  clear p0 p1 p2 p3 p4 p5 p6 p7 p8 zp x0 x1 x2 x3 x4 x5 x6 x7 x8 zx y0 y1 y2 y3 y4 y5 y6 y7 y8 zy z0 z1 z2 z3 z4 z5 z6 z7 z8 zz o0 o1 o2 o3 o4 o5 o6 o7 o8 zo q0 q1 q2 q3 q4 q5 q6 q7 q8 zq
  refine K_step (by kernel_rfl) (by kernel_rfl) rfl (fun K hK => ?_)
  go_simp
  refine hK.out _ _ ?_
  clear hK K
  try simp only [Act.put, List.setIfInBounds_toArray, List.set_cons_zero, List.set_cons_succ]
  refine wpAny_done (by kernel_rfl) ?_ _
  go_wp2
  go_ret
  exact ⟨rfl, HG12.out⟩
/-- the law of every input -/
theorem senders8 (A : Option Addr) (n c : Nat) (At Nu Bl Se : Int) (Wt : Bool) (Gp Dl : Int) (Fl : Bool) (l : List Int) (F : Option Addr) (m cF : Nat) (f : List Int) (t : Int) (w : World) (hl : l.length = n) (hb : Bt w A l) (hc : n ≤ c) (hfl : f.length = m) (hfb : Bt w F f) (hfB : Byt f) (hfc : m ≤ cF) : Calls Try.prog 8 #[.agg #[.slice A n c, .int .i64 At, .int .i64 Nu, .int .i64 Bl, .int .i64 Se, .bool Wt, .int .i64 Gp, .int .i64 Dl, .bool Fl], .slice F m cF, .int .i64 t] w fun x w' => x = .returned (.bool true) ∧ Below w.heap.size w w' := by
  by_cases h : 1100 < n
  · exact senders_big A n c At Nu Bl Se Wt Gp Dl Fl l F m cF f t w (.inl h)
  by_cases hm : 20 < m
  · exact senders_big A n c At Nu Bl Se Wt Gp Dl Fl l F m cF f t w (.inr ⟨h, hm⟩)
  cases hv : vS n At Nu Bl Se Wt Gp Dl Fl
  · exact senders_arg A n c At Nu Bl Se Wt Gp Dl Fl l F m cF f t w hl hb hc hfl hfb hfB hfc h hm hv
  cases ht : timeB t
  · exact senders_range A n c At Nu Bl Se Wt Gp Dl Fl l F m cF f t w hl hb hc hfl hfb hfB hfc h hm hv ht
  exact senders_ok A n c At Nu Bl Se Wt Gp Dl Fl l F m cF f t w hl hb hc hfl hfb hfB hfc h hm hv ht
end Go.Proofs.Ytfjeediecmhedaa
