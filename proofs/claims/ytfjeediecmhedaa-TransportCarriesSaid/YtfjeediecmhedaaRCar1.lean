/-
  The contract of the reference's Carry. No condition but the slice's shape.
-/
import Derived.Test.YtfjeediecmhedaaRCar0
set_option linter.unusedVariables false
set_option linter.unusedSimpArgs false
namespace Go.Proofs.Ytfjeediecmhedaa
open Go.RowKit
set_option maxRecDepth 100000 in
set_option maxHeartbeats 16000000 in
theorem rcarry17 (A : Option Addr) (n c : Nat) (b g : Int) (l : List Int) (w : World) (hl : l.length = n) (hb : Bt w A l) (hc : n ≤ c) (hm : msgB n = true) (b0 : 0 ≤ b) (b1 : b ≤ 255) (g0 : 0 ≤ g) (g1 : g ≤ 127) : Calls Try.prog 17 #[.slice A n c, .int .i64 b, .int .i64 g] w (CR (allM l b g) w) := by
  obtain ⟨s0, fr0, K, hI, hfr0, hall, hs0⟩ := send22c A n c l b g hl hc hm
  replace K := Lib.hid K
  have HI := Lib.hid hI
  have HS0 := Lib.hid hs0
  have HALL := Lib.hid hall
  have HFR := Lib.hid hfr0
  have HL := Lib.hid hl
  have HB := Lib.hid hb
  obtain ⟨m0, m1⟩ : 1 ≤ n ∧ n ≤ 1023 := by simpa [msgB] using hm
  have u1 := u8_of b0 b1
  have u2 := u8_of g0 (show g ≤ 255 by omega)
  clear hb hl hm hI hall hfr0 hs0
  go_enter Try.func17, Try.ntmps17
  go_wp2_with fail
  refine (K.out _ HB.out).mono ?_
  rintro x w1 ⟨A1, n1, c1, B1, q1, d1, rfl, hn1, hc1, hbt1, hfr1, hm1, hd1, hbf1, hff1, hb1⟩
  obtain rfl : n = n1 := by rw [hn1, HI.out.1, HL.out]
  obtain rfl : 8 = q1 := by rw [hm1, HFR.out]
  rw [HI.out.1] at hbt1
  obtain ⟨P, hPe⟩ : ∃ P, P = w1.heap.size := ⟨_, rfl⟩
  have hPw : w.heap.size ≤ P := by rw [hPe]; exact hb1.size
  have P2 := Cl.new (w := w1) hPe [.slice A1 n c1, .int .i64 s0.At, .int .i64 s0.Nu, .int .i64 s0.Bl, .int .i64 s0.Se, .bool s0.Wt, .int .i64 s0.Gp, .int .i64 s0.Dl, .bool s0.Fl] 40
  have hA1 : ∀ b o, A1 = some ⟨b, o, none⟩ → w.heap.size ≤ b ∧ b < P := fun b o q => by
    obtain ⟨b', o', e', hlt⟩ := hbt1.addr (by rw [HL.out]; omega)
    have h1 := hfr1 b o q
    rw [q] at e'; injection e' with e'; injection e' with e1 _
    exact ⟨h1, by omega⟩
  have hB1 : ∀ b o, B1 = some ⟨b, o, none⟩ → w.heap.size ≤ b ∧ b < P := fun b o q => by
    obtain ⟨b', o', e', hlt⟩ := hbf1.addr (by rw [HFR.out]; decide)
    have h1 := hff1 b o q
    rw [q] at e'; injection e' with e'; injection e' with e1 _
    exact ⟨h1, by omega⟩
  have G2 := hb1.alloc hb1.size (.cells #[.slice A1 n c1, .int .i64 s0.At, .int .i64 s0.Nu, .int .i64 s0.Bl, .int .i64 s0.Se, .bool s0.Wt, .int .i64 s0.Gp, .int .i64 s0.Dl, .bool s0.Fl] 40)
  have T2 := hbt1.below ((Below.refl _ _).alloc (Nat.le_refl _) (.cells #[.slice A1 n c1, .int .i64 s0.At, .int .i64 s0.Nu, .int .i64 s0.Bl, .int .i64 s0.Se, .bool s0.Wt, .int .i64 s0.Gp, .int .i64 s0.Dl, .bool s0.Fl] 40))
  have F2 := hbf1.below ((Below.refl _ _).alloc (Nat.le_refl _) (.cells #[.slice A1 n c1, .int .i64 s0.At, .int .i64 s0.Nu, .int .i64 s0.Bl, .int .i64 s0.Se, .bool s0.Wt, .int .i64 s0.Gp, .int .i64 s0.Dl, .bool s0.Fl] 40))
  have HPE := Lib.hid hPe
  clear hPe hn1 hm1
  go_upto_region 2 with fail
  have hPe := HPE.out
  obtain ⟨w2, hw2⟩ : ∃ wx, wx = w1.alloc (.cells #[.slice A1 n c1, .int .i64 s0.At, .int .i64 s0.Nu, .int .i64 s0.Bl, .int .i64 s0.Se, .bool s0.Wt, .int .i64 s0.Gp, .int .i64 s0.Dl, .bool s0.Fl] 40) := ⟨_, rfl⟩
  have z2 : w2.heap.size = P + 1 := by rw [hw2, hPe]; simp
  rw [← hw2, ← hPe]
  rw [← hw2] at P2 G2 T2 F2
  clear hw2 hPe HPE hbt1 hfr1 hbf1 hff1 hb1
  have HA1 := Lib.hid hA1
  have HB1 := Lib.hid hB1
  have hAl : Below w2.heap.size w2 (w2.alloc (.cells #[.slice B1 8 d1] 22)) := (Below.refl _ _).alloc (Nat.le_refl _) _
  have P3 := P2.below hAl
  have T3 := T2.below hAl
  have G3 := G2.alloc G2.size (.cells #[.slice B1 8 d1] 22)
  have O3 : Out (w2.alloc (.cells #[.slice B1 8 d1] 22)) w.heap.size P (P + 1) 1 [fr0] := by
    refine ⟨Nat.le_refl _, [.slice B1 8 d1], ?_, Rw.one ⟨B1, d1, by rw [HFR.out], by rw [HFR.out]; exact hd1, F2.below hAl, fun b o q => by have := hB1 b o q; exact ⟨⟨this.1, by omega, by omega⟩, by simp; omega⟩⟩⟩
    rw [← z2]
    exact World.ownsRow_lit w2 #[.slice B1 8 d1] 1 (Nat.le_refl _) (by simp [maxLen]) rfl
  have HP3 := Lib.hid P3
  have HT3 := Lib.hid T3
  have HG3 := Lib.hid G3
  have HO3 := Lib.hid O3
  clear P2 T2 F2 G2 P3 T3 G3 O3 hAl hA1 hB1
  go_upto_region 4 with fail
  go_loopg [8, 9, 10, 11] (2 * n) (fun gk v8 v9 v10 v11 wr => ∃ (s : SS) (A2 : Option Addr) (c2 : Nat) (fs : List (List Int)) (gR cap : Nat) (now : Int), Inv l b g gk s ∧ n ≤ c2 ∧ Cl P wr [.slice A2 n c2, .int .i64 s.At, .int .i64 s.Nu, .int .i64 s.Bl, .int .i64 s.Se, .bool s.Wt, .int .i64 s.Gp, .int .i64 s.Dl, .bool s.Fl] ∧ Bt wr A2 l ∧ (∀ b o, A2 = some ⟨b, o, none⟩ → Nb w.heap.size P gR b ∧ b < wr.heap.size) ∧ fs ++ rem l b g gk s = allM l b g ∧ v9 = .slice (some ⟨gR, 0, none⟩) fs.length cap ∧ v10 = .int .i64 now ∧ 0 ≤ now ∧ (s.At < l.length → now ≤ s.Dl) ∧ Out wr w.heap.size P gR cap fs ∧ gR < wr.heap.size ∧ Below w.heap.size w wr ∧ fs.length + gk ≤ 5000)
  case atStart =>
    exact ⟨s0, A1, c1, [fr0], P + 1, 1, 0, HI.out, hc1, HP3.out, HT3.out, fun b o q => (by have := HA1.out b o q; exact ⟨⟨by omega, by omega, by omega⟩, by simp; omega⟩), HALL.out.symm, by simp [z2], rfl, Int.le_refl _, HS0.out, HO3.out, by simp; omega, HG3.out, by simp; omega⟩
  case round =>
    obtain ⟨s, A2, c2, fs, gR, cap, now, hI, hc2, hP, hT, hA2, hfs, rfl, rfl, n0, nd, hout, hgR, hg, hlen⟩ := hrel
    have hPg := hout.1
    clear HP3 HT3 HG3 HO3 HA1 HB1 K HALL HFR HI HS0
    by_cases hlt : s.At < l.length
    · have hlt' : s.At < (n : Int) := by rw [← HL.out]; exact hlt
      have hd1 : decide (s.At < (n : Int)) = true := by simp [hlt']
      have HP0 := Lib.hid hP
      have p0 := HP0.out.c 0 rfl
      have p1 := HP0.out.c 1 rfl
      have p2 := HP0.out.c 2 rfl
      have p3 := HP0.out.c 3 rfl
      have p4 := HP0.out.c 4 rfl
      have p5 := HP0.out.c 5 rfl
      have p6 := HP0.out.c 6 rfl
      have p7 := HP0.out.c 7 rfl
      have p8 := HP0.out.c 8 rfl
      have zp := HP0.out.1
      clear hlt'
      go_upto_if 26 with fail
      clear p0 p1 p2 p3 p4 p5 p6 p7 p8 zp HP0 hd1
      go_cut [9, 11] from 19 to 56 (fun v9 v11 wc => ∃ (k : Nat) (s : SS) (A2 : Option Addr) (c2 : Nat) (fs : List (List Int)) (gR cap : Nat), Inv l b g (k + 1) s ∧ n ≤ c2 ∧ Cl P wc [.slice A2 n c2, .int .i64 s.At, .int .i64 s.Nu, .int .i64 s.Bl, .int .i64 s.Se, .bool false, .int .i64 s.Gp, .int .i64 s.Dl, .bool s.Fl] ∧ Bt wc A2 l ∧ (∀ b o, A2 = some ⟨b, o, none⟩ → Nb w.heap.size P gR b ∧ b < wc.heap.size) ∧ fs ++ rem l b g (k + 1) s = allM l b g ∧ k < gk ∧ s.At < l.length ∧ s.Wt = false ∧ v9 = .slice (some ⟨gR, 0, none⟩) fs.length cap ∧ Out wc w.heap.size P gR cap fs ∧ gR < wc.heap.size ∧ Below w.heap.size w wc ∧ fs.length + (k + 1) ≤ 5000)
      case first =>
        cases hw : s.Wt
        · obtain ⟨k, rfl⟩ := step_len hI hlt
          have hP' : Cl P wr [.slice A2 n c2, .int .i64 s.At, .int .i64 s.Nu, .int .i64 s.Bl, .int .i64 s.Se, .bool false, .int .i64 s.Gp, .int .i64 s.Dl, .bool s.Fl] := by have := hP; rw [hw] at this; exact this
          have HP := Lib.hid hP'
          have p0 := HP.out.c 0 rfl
          have p1 := HP.out.c 1 rfl
          have p2 := HP.out.c 2 rfl
          have p3 := HP.out.c 3 rfl
          have p4 := HP.out.c 4 rfl
          have p5 := HP.out.c 5 rfl
          have p6 := HP.out.c 6 rfl
          have p7 := HP.out.c 7 rfl
          have p8 := HP.out.c 8 rfl
          have zp := HP.out.1
          have HI' := Lib.hid hI
          have HT := Lib.hid hT
          have HA2 := Lib.hid hA2
          have HFS := Lib.hid hfs
          have HLT := Lib.hid hlt
          have HW := Lib.hid hw
          have HO := Lib.hid hout
          have HG := Lib.hid hg
          clear hP hP' hT hA2 hout hg hfs hI hw hlt n0 nd
          go_wp2_with fail
          go_meet
          case rel => exact ⟨k, s, A2, c2, fs, gR, cap, HI'.out, hc2, HP.out, HT.out, HA2.out, HFS.out, Nat.lt_succ_self _, HLT.out, HW.out, rfl, HO.out, hgR, HG.out, hlen⟩
        · obtain ⟨k, rfl⟩ := step_len hI hlt
          obtain ⟨s', hs', hI', hat, hw', hdl, hre⟩ := step_ctl b0 b1 g0 g1 hI hlt hw n0 (nd hlt)
          have hnt : timeB now = true := inB_mk n0 (by have := nd hlt; have := hI.2.2.2.1; omega)
          have K32 : ∀ w F cF, 8 ≤ cF → Bt w A2 l → Bt w F (pad [48, b, g]) → Calls Try.prog 32 #[.agg #[.slice A2 n c2, .int .i64 s.At, .int .i64 s.Nu, .int .i64 s.Bl, .int .i64 s.Se, .bool true, .int .i64 s.Gp, .int .i64 s.Dl, .bool s.Fl], .slice F 8 cF, .int .i64 now] w (S2 s' 0 w) := fun w F cF hcF h h2 => by
            have := rctl32 A2 n c2 s.At s.Nu s.Bl s.Se s.Wt s.Gp s.Dl s.Fl l F 8 cF (pad [48, b, g]) now w HL.out h hc2 (pad_len (by simp)) h2 (byt_go b0 b1 g0 g1) hcF (ok_of hI HL.out) hnt
            rw [← SS.eta hI.1, hs', hw] at this
            exact this
          replace K32 := Lib.hid K32
          have hP' : Cl P wr [.slice A2 n c2, .int .i64 s.At, .int .i64 s.Nu, .int .i64 s.Bl, .int .i64 s.Se, .bool true, .int .i64 s.Gp, .int .i64 s.Dl, .bool s.Fl] := by have := hP; rw [hw] at this; exact this
          have HP := Lib.hid hP'
          have p0 := HP.out.c 0 rfl
          have p1 := HP.out.c 1 rfl
          have p2 := HP.out.c 2 rfl
          have p3 := HP.out.c 3 rfl
          have p4 := HP.out.c 4 rfl
          have p5 := HP.out.c 5 rfl
          have p6 := HP.out.c 6 rfl
          have p7 := HP.out.c 7 rfl
          have p8 := HP.out.c 8 rfl
          have e0 := HP.out.f 0 rfl
          have e1 := HP.out.f 1 rfl
          have e2 := HP.out.f 2 rfl
          have e3 := HP.out.f 3 rfl
          have e4 := HP.out.f 4 rfl
          have e5 := HP.out.f 5 rfl
          have e6 := HP.out.f 6 rfl
          have e7 := HP.out.f 7 rfl
          have e8 := HP.out.f 8 rfl
          have zp := HP.out.1
          have HT := Lib.hid hT
          have HO := Lib.hid hout
          have HG := Lib.hid hg
          have HI' := Lib.hid hI'
          have HAT := Lib.hid (show s'.At < l.length by rw [hat]; exact hlt)
          have HW' := Lib.hid hw'
          have HRE := Lib.hid (show (fs ++ [pad [48, b, g]]) ++ rem l b g k s' = allM l b g by rw [← hfs, hre]; simp)
          have hA24 : ∀ b o, A2 = some ⟨b, o, none⟩ → w.heap.size ≤ b ∧ b ≠ P ∧ b ≠ gR ∧ b < wr.heap.size := fun b o q => by have h := hA2 b o q; exact ⟨h.1.1, h.1.2.1, h.1.2.2, h.2⟩
          have HA24 := Lib.hid hA24
          clear hP hP' hT hA2 hA24 hout hg hfs hI hw hre hs' hI' hat hw' hdl hlt hnt n0 nd
          go_wp2_with fail
          refine (frame40 ⟨wr.heap.size, 0, none⟩ 3 3 [48, b, g] _ rfl (Bt.of_block (new_at rfl _)) (by omega)).mono ?_
          rintro x w4 ⟨v4, rfl, hown4, hb4⟩
          obtain ⟨F4, c4, rfl, hc4, _, hkb, hfr4, hlt4⟩ := hown4.bt
          have hpl : (pad [48, b, g]).length = 8 := pad_len (by simp)
          rw [hpl] at hc4 ⊢
          have hb4' : Below wr.heap.size wr w4 := ((Below.refl _ _).alloc (Nat.le_refl _) _).trans (hb4.mono (by simp))
          have P6 := HP.out.below hb4'
          have T6 := HT.out.below hb4'
          have KB6 := hkb
          have z4 := hb4'.size
          have hwr := HG.out.size
          have hKN : ∀ b o, F4 = some ⟨b, o, none⟩ → wr.heap.size ≤ b ∧ b < w4.heap.size := fun b o q => ⟨by have := hfr4 b o q; simp at this; omega, hlt4 b o q⟩
          have O6 := HO.out.below hb4'
          have G6 := chain HG.out hb4'
          have hA6 : ∀ b o, A2 = some ⟨b, o, none⟩ → w.heap.size ≤ b ∧ b ≠ P ∧ b ≠ gR ∧ b < w4.heap.size := fun b o q => by have := HA24.out b o q; omega
          have Y6 : Sl w4 (Nb w.heap.size P gR) (.slice F4 8 c4) (pad [48, b, g]) := ⟨_, _, by rw [hpl], by rw [hpl]; exact hc4, hkb, fun b o q => by have := hKN b o q; exact ⟨⟨by omega, by omega, by omega⟩, by omega⟩⟩
          clear p0 p1 p2 p3 p4 p5 p6 p7 p8 e0 e1 e2 e3 e4 e5 e6 e7 e8 hown4 hb4 hb4' hfr4 hlt4 hkb HP HT HO HG
          have hAl : Below w4.heap.size w4 (w4.alloc (.cells #[.slice F4 8 c4] 22)) := (Below.refl _ _).alloc (Nat.le_refl _) _
          have Y7 := Y6.below hAl
          have O7 := O6.below hAl
          have HP6 := Lib.hid (P6.below hAl)
          have HT6 := Lib.hid (T6.below hAl)
          have HK6 := Lib.hid (KB6.below hAl)
          have HG6 := Lib.hid (G6.alloc G6.size (.cells #[.slice F4 8 c4] 22))
          have HA6 := Lib.hid hA6
          have HKN := Lib.hid hKN
          have hPl := P6.1
          have hgs := G6.size
          clear P6 T6 KB6 G6 hA6 hKN O6 Y6 hAl
          go_wp2_with (at_builtin; go_loud (refine app_out rfl _ _ rfl w.heap.size P gR cap fs.length fs (pad [48, b, g]) rfl rfl O7 w4.heap.size (.slice F4 8 c4) rfl ?c1 Y7 ?c2 ?c3 ?_))
          case c1 => exact (cells_new rfl [.slice F4 8 c4] 22) 0 _ rfl
          case c2 => omega
          try (case c3 => simp; omega)
          intro g' cap' w7 hO7 hK7 hne7 hb7
          have hz7 := hK7.1
          simp at hz7
          have P7 := HP6.out.kept hK7 (by omega)
          have T7 := HT6.out.kept hK7 (fun b o q => by have := HA6.out b o q; omega)
          have K7 := HK6.out.kept hK7 (fun b o q => by have := HKN.out b o q; omega)
          have A7 : ∀ b o, A2 = some ⟨b, o, none⟩ → Nb w.heap.size P g' b ∧ b < w7.heap.size := fun b o q => by
            have h1 := HA6.out b o q
            exact ⟨⟨by omega, by omega, hne7 b (by first | omega | (simp; omega)) (by omega)⟩, by omega⟩
          have G7 : Below w.heap.size w w7 := HG6.out.trans (hb7.mono (by omega))
          have hg7 : g' < w7.heap.size := by
            obtain ⟨_, xs', h1, _⟩ := hO7
            exact own_lt h1 g' rfl
          clear Y7 O7
          have HP7 := Lib.hid P7
          have p0 := P7.c 0 rfl
          have p1 := P7.c 1 rfl
          have p2 := P7.c 2 rfl
          have p3 := P7.c 3 rfl
          have p4 := P7.c 4 rfl
          have p5 := P7.c 5 rfl
          have p6 := P7.c 6 rfl
          have p7 := P7.c 7 rfl
          have p8 := P7.c 8 rfl
          have e0 := P7.f 0 rfl
          have e1 := P7.f 1 rfl
          have e2 := P7.f 2 rfl
          have e3 := P7.f 3 rfl
          have e4 := P7.f 4 rfl
          have e5 := P7.f 5 rfl
          have e6 := P7.f 6 rfl
          have e7 := P7.f 7 rfl
          have e8 := P7.f 8 rfl
          have zq := P7.1
          have HT7 := Lib.hid T7
          have HK7 := Lib.hid K7
          have HO7 := Lib.hid hO7
          have HG7 := Lib.hid G7
          clear HP6 HT6 HK6 HG6 HA6 HKN P7 T7 K7 hO7 G7 hK7 hne7 hb7 A7
          go_wp2_with fail
          refine (K32.out _ _ _ hc4 HT7.out HK7.out).mono ?_
          rintro x w8 ⟨A5, n5, c5, rfl, hn5, hc5, hbt5, hfr5, hb8⟩
          obtain rfl : n = n5 := by rw [hn5, HI'.out.1, HL.out]
          rw [HI'.out.1] at hbt5
          have hA5l : ∀ b o, A5 = some ⟨b, o, none⟩ → b < w8.heap.size := fun b o q => by
            obtain ⟨b', o', e', hlt⟩ := hbt5.addr (by rw [HL.out]; omega)
            rw [q] at e'; injection e' with e'; injection e' with e1 _
            omega
          have P8 := HP7.out.below hb8
          have O8 := HO7.out.below hb8
          have G8 := chain HG7.out hb8
          have z8 := hb8.size
          have hgs7 := HG7.out.size
          clear p0 p1 p2 p3 p4 p5 p6 p7 p8 e0 e1 e2 e3 e4 e5 e6 e7 e8 hn5
          have p0 := P8.c 0 rfl
          have p1 := P8.c 1 rfl
          have p2 := P8.c 2 rfl
          have p3 := P8.c 3 rfl
          have p4 := P8.c 4 rfl
          have p5 := P8.c 5 rfl
          have p6 := P8.c 6 rfl
          have p7 := P8.c 7 rfl
          have p8 := P8.c 8 rfl
          have e0 := P8.f 0 rfl
          have e1 := P8.f 1 rfl
          have e2 := P8.f 2 rfl
          have e3 := P8.f 3 rfl
          have e4 := P8.f 4 rfl
          have e5 := P8.f 5 rfl
          have e6 := P8.f 6 rfl
          have e7 := P8.f 7 rfl
          have e8 := P8.f 8 rfl
          have zp8 := P8.1
          have HP8 := Lib.hid P8
          have HO8 := Lib.hid O8
          have HG8 := Lib.hid G8
          have HB8 := Lib.hid hbt5
          have HF8 := Lib.hid hfr5
          have HA8 := Lib.hid hA5l
          clear P8 O8 G8 hbt5 hfr5 hA5l hb8 HP7 HT7 HK7 HO7 HG7
          go_wp2_with fail
          go_meet
          case rel =>
            obtain ⟨j, rfl⟩ := step_len HI'.out HAT.out
            refine ⟨j, s', A5, c5, fs ++ [pad [48, b, g]], g', cap', HI'.out, hc5, by rw [← HW'.out]; exact HP8.out.set9 (.slice A5 n c5) (.int .i64 s'.At) (.int .i64 s'.Nu) (.int .i64 s'.Bl) (.int .i64 s'.Se) (.bool s'.Wt) (.int .i64 s'.Gp) (.int .i64 s'.Dl) (.bool s'.Fl), ?_, fun b o q => ?_, HRE.out, by omega, HAT.out, HW'.out, by simp, HO8.out.set9 (.slice A5 n c5) (.int .i64 s'.At) (.int .i64 s'.Nu) (.int .i64 s'.Bl) (.int .i64 s'.Se) (.bool s'.Wt) (.int .i64 s'.Gp) (.int .i64 s'.Dl) (.bool s'.Fl), by simp; omega, below_set9 HG8.out (by omega) _ _ _ _ _ _ _ _ _, by simp; omega⟩
            · exact HB8.out.set9 (fun b o q h => by have := HF8.out b o q; omega) _ _ _ _ _ _ _ _ _
            · have h1 := HF8.out b o q
              have h2 := HA8.out b o q
              exact ⟨⟨by omega, by omega, by omega⟩, by simp; omega⟩
      case rest =>
        clear hI hP hT hA2 hfs n0 nd hout hgR hg hlen hPg hlt
        obtain ⟨k, s, A2, c2, fs, gR, cap, hI, hc2, hP, hT, hA2, hfs, hkg, hlt, hw, rfl, hout, hgR, hg, hlen⟩ := hcut
        have hPg := hout.1
        have D0 := (ok_gen hI.2.1).2.2.2.2.2.2.2.2.2.2.2.1
        have HP := Lib.hid hP
        have p0 := HP.out.c 0 rfl
        have p1 := HP.out.c 1 rfl
        have p2 := HP.out.c 2 rfl
        have p3 := HP.out.c 3 rfl
        have p4 := HP.out.c 4 rfl
        have p5 := HP.out.c 5 rfl
        have p6 := HP.out.c 6 rfl
        have p7 := HP.out.c 7 rfl
        have p8 := HP.out.c 8 rfl
        have e0 := HP.out.f 0 rfl
        have e1 := HP.out.f 1 rfl
        have e2 := HP.out.f 2 rfl
        have e3 := HP.out.f 3 rfl
        have e4 := HP.out.f 4 rfl
        have e5 := HP.out.f 5 rfl
        have e6 := HP.out.f 6 rfl
        have e7 := HP.out.f 7 rfl
        have e8 := HP.out.f 8 rfl
        have zp := HP.out.1
        have HT := Lib.hid hT
        have HO := Lib.hid hout
        have HG := Lib.hid hg
        obtain ⟨s', fr, hs', hI', hfl, hnd, hre⟩ := step_nxt b0 b1 g0 g1 hI hlt hw D0 rfl
        have K31 : ∀ w, Bt w A2 l → Calls Try.prog 31 #[.agg #[.slice A2 n c2, .int .i64 s.At, .int .i64 s.Nu, .int .i64 s.Bl, .int .i64 s.Se, .bool false, .int .i64 s.Gp, .int .i64 s.Dl, .bool s.Fl], .int .i64 s.Dl] w (S3 s' fr 0 w) := fun w h => by
          have := rnext31 A2 n c2 s.At s.Nu s.Bl s.Se s.Wt s.Gp s.Dl s.Fl l s.Dl w HL.out h hc2 (ok_of hI HL.out) (time_of hI)
          rw [← SS.eta hI.1, hs', hw] at this
          exact this
        replace K31 := Lib.hid K31
        have HI' := Lib.hid hI'
        have HND := Lib.hid hnd
        have HRE := Lib.hid (show (fs ++ [fr]) ++ rem l b g k s' = allM l b g by rw [← hfs, hre]; simp)
        clear hP hT hA2 hout hg hfs hI hI' hw hlt hre hs' hnd
        go_wp2_with fail
        refine (K31.out _ HT.out).mono ?_
        rintro x w5 ⟨A5, n5, c5, B5, m5, d5, rfl, hn5, hc5, hbt5, hfr5, hm5, hd8, hbf5, hff5, hb5⟩
        obtain rfl : 8 = m5 := by rw [hm5, hfl]
        obtain rfl : n = n5 := by rw [hn5, HI'.out.1, HL.out]
        rw [HI'.out.1] at hbt5
        have hKN : ∀ b o, B5 = some ⟨b, o, none⟩ → wc.heap.size ≤ b ∧ b < w5.heap.size := fun b o q => by
          obtain ⟨b', o', e', hlt⟩ := hbf5.addr (by rw [hfl]; decide)
          have h1 := hff5 b o q
          rw [q] at e'; injection e' with e'; injection e' with e1 _
          exact ⟨h1, by omega⟩
        have hA5l : ∀ b o, A5 = some ⟨b, o, none⟩ → wc.heap.size ≤ b ∧ b < w5.heap.size := fun b o q => by
          obtain ⟨b', o', e', hlt⟩ := hbt5.addr (by rw [HL.out]; omega)
          have h1 := hfr5 b o q
          rw [q] at e'; injection e' with e'; injection e' with e1 _
          exact ⟨h1, by omega⟩
        have P5 := HP.out.below hb5
        have O5 := HO.out.below hb5
        have G5 := chain HG.out hb5
        have hwr := HG.out.size
        have hPr := HP.out.1
        have z5 := hb5.size
        clear p0 p1 p2 p3 p4 p5 p6 p7 p8 e0 e1 e2 e3 e4 e5 e6 e7 e8 zp HP HO HG HT hn5 hb5 hm5 hff5 hfr5
        have p0 := P5.c 0 rfl
        have p1 := P5.c 1 rfl
        have p2 := P5.c 2 rfl
        have p3 := P5.c 3 rfl
        have p4 := P5.c 4 rfl
        have p5 := P5.c 5 rfl
        have p6 := P5.c 6 rfl
        have p7 := P5.c 7 rfl
        have p8 := P5.c 8 rfl
        have e0 := P5.f 0 rfl
        have e1 := P5.f 1 rfl
        have e2 := P5.f 2 rfl
        have e3 := P5.f 3 rfl
        have e4 := P5.f 4 rfl
        have e5 := P5.f 5 rfl
        have e6 := P5.f 6 rfl
        have e7 := P5.f 7 rfl
        have e8 := P5.f 8 rfl
        have zp := P5.1
        go_upto_region 11 with fail
        obtain ⟨w6, hw6⟩ : ∃ wx, wx = (((((((((w5.setCell ⟨P, 0, none⟩ (.slice A5 n c5)).setCell ⟨P, 1, none⟩ (.int .i64 s'.At)).setCell ⟨P, 2, none⟩ (.int .i64 s'.Nu)).setCell ⟨P, 3, none⟩ (.int .i64 s'.Bl)).setCell ⟨P, 4, none⟩ (.int .i64 s'.Se)).setCell ⟨P, 5, none⟩ (.bool s'.Wt)).setCell ⟨P, 6, none⟩ (.int .i64 s'.Gp)).setCell ⟨P, 7, none⟩ (.int .i64 s'.Dl)).setCell ⟨P, 8, none⟩ (.bool s'.Fl)) := ⟨_, rfl⟩
        have P6 : Cl P w6 [.slice A5 n c5, .int .i64 s'.At, .int .i64 s'.Nu, .int .i64 s'.Bl, .int .i64 s'.Se, .bool s'.Wt, .int .i64 s'.Gp, .int .i64 s'.Dl, .bool s'.Fl] := by rw [hw6]; exact P5.set9 (.slice A5 n c5) (.int .i64 s'.At) (.int .i64 s'.Nu) (.int .i64 s'.Bl) (.int .i64 s'.Se) (.bool s'.Wt) (.int .i64 s'.Gp) (.int .i64 s'.Dl) (.bool s'.Fl)
        have T6 : Bt w6 A5 l := by
          rw [hw6]
          exact hbt5.set9 (fun b o q h => by have := hA5l b o q; omega) _ _ _ _ _ _ _ _ _
        have KB6 : Bt w6 B5 fr := by
          rw [hw6]
          exact hbf5.set9 (fun b o q h => by have := (hKN b o q).1; omega) _ _ _ _ _ _ _ _ _
        have O6 : Out w6 w.heap.size P gR cap fs := by rw [hw6]; exact O5.set9 (.slice A5 n c5) (.int .i64 s'.At) (.int .i64 s'.Nu) (.int .i64 s'.Bl) (.int .i64 s'.Se) (.bool s'.Wt) (.int .i64 s'.Gp) (.int .i64 s'.Dl) (.bool s'.Fl)
        have G6 : Below w.heap.size w w6 := by rw [hw6]; exact below_set9 G5 hPw _ _ _ _ _ _ _ _ _
        have z6 : w6.heap.size = w5.heap.size := by rw [hw6]; simp
        rw [← hw6]
        have hKN := fun b o (q : B5 = some ⟨b, o, none⟩) => (show wc.heap.size ≤ b ∧ b < w6.heap.size by have := hKN b o q; omega)
        have hA6 : ∀ b o, A5 = some ⟨b, o, none⟩ → w.heap.size ≤ b ∧ b ≠ P ∧ b ≠ gR ∧ b < w6.heap.size := fun b o q => by have := hA5l b o q; omega
        have Y6 : Sl w6 (Nb w.heap.size P gR) (.slice B5 8 d5) fr := ⟨_, _, by rw [hfl], by rw [hfl]; exact hd8, KB6, fun b o q => by have := hKN b o q; exact ⟨⟨by omega, by omega, by omega⟩, by omega⟩⟩
        have hz56 : w5.heap.size ≤ w6.heap.size := by omega
        clear hw6 p0 p1 p2 p3 p4 p5 p6 p7 p8 e0 e1 e2 e3 e4 e5 e6 e7 e8 zp P5 O5 G5 hbt5 hbf5 z6 hA5l hfl
        have hAl : Below w6.heap.size w6 (w6.alloc (.cells #[.slice B5 8 d5] 22)) := (Below.refl _ _).alloc (Nat.le_refl _) _
        have Y7 := Y6.below hAl
        have O7 := O6.below hAl
        have HP6 := Lib.hid (P6.below hAl)
        have HT6 := Lib.hid (T6.below hAl)
        have HK6 := Lib.hid (KB6.below hAl)
        have HG6 := Lib.hid (G6.alloc G6.size (.cells #[.slice B5 8 d5] 22))
        have HA6 := Lib.hid hA6
        have HKN := Lib.hid hKN
        have hPl := P6.1
        have hgs := G6.size
        clear P6 T6 KB6 G6 hA6 hKN O6 Y6 hAl
        go_wp2_with (at_builtin; go_loud (refine app_out rfl _ _ rfl w.heap.size P gR cap fs.length fs (fr) rfl rfl O7 w6.heap.size (.slice B5 8 d5) rfl ?c1 Y7 ?c2 ?c3 ?_))
        case c1 => exact (cells_new rfl [.slice B5 8 d5] 22) 0 _ rfl
        case c2 => omega
        try (case c3 => simp; omega)
        intro g' cap' w7 hO7 hK7 hne7 hb7
        have hz7 := hK7.1
        simp at hz7
        have P7 := HP6.out.kept hK7 (by omega)
        have T7 := HT6.out.kept hK7 (fun b o q => by have := HA6.out b o q; omega)
        have K7 := HK6.out.kept hK7 (fun b o q => by have := HKN.out b o q; omega)
        have A7 : ∀ b o, A5 = some ⟨b, o, none⟩ → Nb w.heap.size P g' b ∧ b < w7.heap.size := fun b o q => by
          have h1 := HA6.out b o q
          exact ⟨⟨by omega, by omega, hne7 b (by first | omega | (simp; omega)) (by omega)⟩, by omega⟩
        have G7 : Below w.heap.size w w7 := HG6.out.trans (hb7.mono (by omega))
        have hg7 : g' < w7.heap.size := by
          obtain ⟨_, xs', h1, _⟩ := hO7
          exact own_lt h1 g' rfl
        clear Y7 O7
        go_wp2_with fail
        go_roundg k
        case measure => omega
        case rel => exact ⟨s', A5, c5, fs ++ [fr], g', cap', s.Dl, HI'.out, hc5, P7, T7, A7, HRE.out, by simp, rfl, D0, HND.out, hO7, hg7, G7, by simp; omega⟩
    · have hge : ¬ s.At < (n : Int) := by rw [← HL.out]; exact hlt
      have hd1 : decide (s.At < (n : Int)) = false := by simp; omega
      have hrem : rem l b g gk s = [] := carM_end _ _ _ _ _ _ _ _ (by omega)
      have hall : fs = allM l b g := by rw [hrem, List.append_nil] at hfs; exact hfs
      have HAL := Lib.hid hall
      have HP := Lib.hid hP
      have HO := Lib.hid hout
      have HG := Lib.hid hg
      clear hP hT hA2 hfs hout hg hI hlt hge hrem hall n0 nd
      have p0 := HP.out.c 0 rfl
      have p1 := HP.out.c 1 rfl
      have p2 := HP.out.c 2 rfl
      have p3 := HP.out.c 3 rfl
      have p4 := HP.out.c 4 rfl
      have p5 := HP.out.c 5 rfl
      have p6 := HP.out.c 6 rfl
      have p7 := HP.out.c 7 rfl
      have p8 := HP.out.c 8 rfl
      have zp := HP.out.1
      go_wp2_with fail
      obtain ⟨_, xs, hrow, hrw⟩ := HO.out
      obtain ⟨A', c', hv, hA', hc', _⟩ := own_slice hrow
      injection hv with hv1 _ hv3
      subst hv3
      have hlen0 : 0 < fs.length ∨ xs = [] := by
        rcases Nat.eq_zero_or_pos fs.length with h0 | h0
        · exact .inr (List.eq_nil_of_length_eq_zero (by rw [hrw.1]; exact h0))
        · exact .inl h0
      refine bodyPost_ret (v := .slice (some ⟨gR, 0, none⟩) fs.length cap) (by simp [results, Try.results17, go_sem] <;> first | rfl | ((repeat' apply And.intro) <;> rfl)) rfl ⟨gR, fs.length, cap, xs, rfl, by rw [← HAL.out], hc', by omega, hgR, fun j u hj => ?_, ?_, HG.out⟩
      · rcases hlen0 with h0 | h0
        · obtain ⟨b', e, _, _, hcell⟩ := hA' h0
          rw [← hv1] at e
          injection e with e; injection e with e
          subst e
          exact hcell j u hj
        · rw [h0] at hj; simp at hj
      · rw [← HAL.out]
        exact hrw.imp (fun b _ hb => hb.1)
end Go.Proofs.Ytfjeediecmhedaa
