/-
  The contract of Carry. No condition but the slice's shape.
-/
import Derived.Test.YtfjeediecmhedaaCar3
set_option linter.unusedVariables false
set_option linter.unusedSimpArgs false
namespace Go.Proofs.Ytfjeediecmhedaa
open Go.RowKit
set_option maxRecDepth 100000 in
set_option maxHeartbeats 16000000 in
theorem carry12_ok (A : Option Addr) (n c : Nat) (b g : Int) (l : List Int) (w : World) (hl : l.length = n) (hb : Bt w A l) (hc : n ≤ c) (hm : msgB n = true) (b0 : 0 ≤ b) (b1 : b ≤ 255) (g0 : 0 ≤ g) (g1 : g ≤ 127) : Calls Try.prog 12 #[.slice A n c, .int .i64 b, .int .i64 g] w (CP (allM l b g) w) := by
  obtain ⟨s0, fr0, K, hI, hfr0, hall⟩ := send12 A n c l b g hl hc hm
  replace K := Lib.hid K
  have HI := Lib.hid hI
  have HALL := Lib.hid hall
  have HFR := Lib.hid hfr0
  have HL := Lib.hid hl
  have HB := Lib.hid hb
  obtain ⟨m0, m1⟩ : 1 ≤ n ∧ n ≤ 1023 := by simpa [msgB] using hm
  have h1 : decide (b < 0) = false := by simp; omega
  have h2 : decide (255 < b) = false := by simp; omega
  have h3 : decide (g < 0) = false := by simp; omega
  have h4 : decide (127 < g) = false := by simp; omega
  clear hb hl hm hI hall hfr0
  go_enter Try.func12, Try.ntmps12
  go_wp2_with fail
  refine (K.out _ HB.out).mono ?_
  rintro x w1 ⟨A1, n1, c1, B1, q1, d1, rfl, hn1, hc1, hbt1, hfr1, hm1, hd1, hbf1, hff1, hb1⟩
  obtain rfl : n = n1 := by rw [hn1, HI.out.1, HL.out]
  obtain rfl : 8 = q1 := by rw [hm1, HFR.out]
  rw [HI.out.1] at hbt1
  obtain ⟨P, hPe⟩ : ∃ P, P = w1.heap.size := ⟨_, rfl⟩
  have hPw : w.heap.size ≤ P := by rw [hPe]; exact hb1.size
  have P2 := Cl.new (w := w1) hPe [.slice A1 n c1, .int .i64 s0.At, .int .i64 s0.Nu, .int .i64 s0.Bl, .int .i64 s0.Se, .bool s0.Wt, .int .i64 s0.Gp, .int .i64 s0.Dl, .bool s0.Fl] 40
  have hA1 : ∀ b o, A1 = some ⟨b, o, none⟩ → w.heap.size ≤ b ∧ b < P := fun b o q => by
    obtain ⟨b', o', e', hlt⟩ := hbt1.addr (by rw [HL.out]; omega)
    have h1 := hfr1 b o q
    rw [q] at e'; injection e' with e'; injection e' with e1 _
    exact ⟨h1, by omega⟩
  have hB1 : ∀ b o, B1 = some ⟨b, o, none⟩ → w.heap.size ≤ b ∧ b < P := fun b o q => by
    obtain ⟨b', o', e', hlt⟩ := hbf1.addr (by rw [HFR.out]; decide)
    have h1 := hff1 b o q
    rw [q] at e'; injection e' with e'; injection e' with e1 _
    exact ⟨h1, by omega⟩
  have G2 := hb1.alloc hb1.size (.cells #[.slice A1 n c1, .int .i64 s0.At, .int .i64 s0.Nu, .int .i64 s0.Bl, .int .i64 s0.Se, .bool s0.Wt, .int .i64 s0.Gp, .int .i64 s0.Dl, .bool s0.Fl] 40)
  have T2 := hbt1.below ((Below.refl _ _).alloc (Nat.le_refl _) (.cells #[.slice A1 n c1, .int .i64 s0.At, .int .i64 s0.Nu, .int .i64 s0.Bl, .int .i64 s0.Se, .bool s0.Wt, .int .i64 s0.Gp, .int .i64 s0.Dl, .bool s0.Fl] 40))
  have F2 := hbf1.below ((Below.refl _ _).alloc (Nat.le_refl _) (.cells #[.slice A1 n c1, .int .i64 s0.At, .int .i64 s0.Nu, .int .i64 s0.Bl, .int .i64 s0.Se, .bool s0.Wt, .int .i64 s0.Gp, .int .i64 s0.Dl, .bool s0.Fl] 40))
  have HPE := Lib.hid hPe
  clear hPe hn1 hm1
  go_upto_region 6 with fail
  have hPe := HPE.out
  obtain ⟨w2, hw2⟩ : ∃ wx, wx = w1.alloc (.cells #[.slice A1 n c1, .int .i64 s0.At, .int .i64 s0.Nu, .int .i64 s0.Bl, .int .i64 s0.Se, .bool s0.Wt, .int .i64 s0.Gp, .int .i64 s0.Dl, .bool s0.Fl] 40) := ⟨_, rfl⟩
  have z2 : w2.heap.size = P + 1 := by rw [hw2, hPe]; simp
  rw [← hw2, ← hPe] 
  rw [← hw2] at P2 G2 T2 F2
  clear hw2 hPe HPE hbt1 hfr1 hbf1 hff1 hb1
  have HA1 := Lib.hid hA1
  have HB1 := Lib.hid hB1
  have hAl : Below w2.heap.size w2 (w2.alloc (.cells #[.slice B1 8 d1] 22)) := (Below.refl _ _).alloc (Nat.le_refl _) _
  have P3 := P2.below hAl
  have T3 := T2.below hAl
  have G3 := G2.alloc G2.size (.cells #[.slice B1 8 d1] 22)
  have O3 : Out (w2.alloc (.cells #[.slice B1 8 d1] 22)) w.heap.size P (P + 1) 1 [fr0] := by
    refine ⟨Nat.le_refl _, [.slice B1 8 d1], ?_, Rw.one ⟨B1, d1, by rw [HFR.out], by rw [HFR.out]; exact hd1, F2.below hAl, fun b o q => by have := hB1 b o q; exact ⟨⟨this.1, by omega, by omega⟩, by simp; omega⟩⟩⟩
    rw [← z2]
    exact World.ownsRow_lit w2 #[.slice B1 8 d1] 1 (Nat.le_refl _) (by simp [maxLen]) rfl
  have HP3 := Lib.hid P3
  have HT3 := Lib.hid T3
  have HG3 := Lib.hid G3
  have HO3 := Lib.hid O3
  clear P2 T2 F2 G2 P3 T3 G3 O3 hAl hA1 hB1
  go_upto_region 7 with fail
  go_loopg [9, 11] (2 * n) (fun gk v9 v11 wr => ∃ (s : SS) (A2 : Option Addr) (c2 : Nat) (fs : List (List Int)) (gR cap : Nat), Inv l b g gk s ∧ n ≤ c2 ∧ Cl P wr [.slice A2 n c2, .int .i64 s.At, .int .i64 s.Nu, .int .i64 s.Bl, .int .i64 s.Se, .bool s.Wt, .int .i64 s.Gp, .int .i64 s.Dl, .bool s.Fl] ∧ Bt wr A2 l ∧ (∀ b o, A2 = some ⟨b, o, none⟩ → Nb w.heap.size P gR b ∧ b < wr.heap.size) ∧ fs ++ rem l b g gk s = allM l b g ∧ v11 = .slice (some ⟨gR, 0, none⟩) fs.length cap ∧ Out wr w.heap.size P gR cap fs ∧ gR < wr.heap.size ∧ Below w.heap.size w wr ∧ fs.length + gk ≤ 5000)
  case atStart =>
    exact ⟨s0, A1, c1, [fr0], P + 1, 1, HI.out, hc1, HP3.out, HT3.out, fun b o q => (by have := HA1.out b o q; exact ⟨⟨by omega, by omega, by omega⟩, by simp; omega⟩), HALL.out.symm, by simp [z2], HO3.out, by simp; omega, HG3.out, by simp; omega⟩
  case round =>
    obtain ⟨s, A2, c2, fs, gR, cap, hI, hc2, hP, hT, hA2, hfs, rfl, hout, hgR, hg, hlen⟩ := hrel
    have hPg := hout.1
    clear HP3 HT3 HG3 HO3 HA1 HB1 K HALL HFR HI
    have D0 := (ok_gen hI.2.1).2.2.2.2.2.2.2.2.2.2.2.1
    by_cases hlt : s.At < l.length
    · obtain ⟨k, rfl⟩ : ∃ k, gk = k + 1 := ⟨gk - 1, by
        have := hI.2.2.2.2.2 hlt
        split at this <;> omega⟩
      cases hw : s.Wt
      · have hP' : Cl P wr [.slice A2 n c2, .int .i64 s.At, .int .i64 s.Nu, .int .i64 s.Bl, .int .i64 s.Se, .bool false, .int .i64 s.Gp, .int .i64 s.Dl, .bool s.Fl] := by have := hP; rw [hw] at this; exact this
        have HP := Lib.hid hP'
        have p0 := HP.out.c 0 rfl
        have p1 := HP.out.c 1 rfl
        have p2 := HP.out.c 2 rfl
        have p3 := HP.out.c 3 rfl
        have p4 := HP.out.c 4 rfl
        have p5 := HP.out.c 5 rfl
        have p6 := HP.out.c 6 rfl
        have p7 := HP.out.c 7 rfl
        have p8 := HP.out.c 8 rfl
        have e0 := HP.out.f 0 rfl
        have e1 := HP.out.f 1 rfl
        have e2 := HP.out.f 2 rfl
        have e3 := HP.out.f 3 rfl
        have e4 := HP.out.f 4 rfl
        have e5 := HP.out.f 5 rfl
        have e6 := HP.out.f 6 rfl
        have e7 := HP.out.f 7 rfl
        have e8 := HP.out.f 8 rfl
        have zp := HP.out.1
        have HT := Lib.hid hT
        have HA2 := Lib.hid hA2
        have HO := Lib.hid hout
        have HG := Lib.hid hg
        have HF := Lib.hid hfs
        obtain ⟨s', fr, hs', hI', hfl, _, hre⟩ := step_nxt b0 b1 g0 g1 hI hlt hw D0 rfl
        have K28 : ∀ w, Bt w A2 l → Calls Try.prog 28 #[.agg #[.slice A2 n c2, .int .i64 s.At, .int .i64 s.Nu, .int .i64 s.Bl, .int .i64 s.Se, .bool false, .int .i64 s.Gp, .int .i64 s.Dl, .bool s.Fl], .int .i64 s.Dl] w (S3 s' fr 0 w) := fun w h => by
          have := next28 A2 n c2 s.At s.Nu s.Bl s.Se s.Wt s.Gp s.Dl s.Fl l s.Dl w HL.out h hc2 (ok_of hI HL.out) (time_of hI)
          rw [← SS.eta hI.1, hs', hw] at this
          exact this
        replace K28 := Lib.hid K28
        have HI' := Lib.hid hI'
        have HRE := Lib.hid (show (fs ++ [fr]) ++ rem l b g k s' = allM l b g by rw [← hfs, hre]; simp)
        have hlt' : s.At < (n : Int) := by rw [← HL.out]; exact hlt
        have hd1 : decide (s.At < (n : Int)) = true := by simp [hlt']
        clear hP hP' hT hA2 hout hg hfs hI hw hlt hre hs' hI'
        go_wp2_with fail
        refine (K28.out _ HT.out).mono ?_
        rintro x w5 ⟨A5, n5, c5, B5, m5, d5, rfl, hn5, hc5, hbt5, hfr5, hm5, hd8, hbf5, hff5, hb5⟩
        obtain rfl : 8 = m5 := by rw [hm5, hfl]
        have hb45 : Below wr.heap.size wr w5 := hb5
        have KB := hbf5
        have hKN : ∀ b o, B5 = some ⟨b, o, none⟩ → wr.heap.size ≤ b ∧ b < w5.heap.size := fun b o q => by
          obtain ⟨b', o', e', hlt⟩ := hbf5.addr (by rw [hfl]; decide)
          have h1 := hff5 b o q
          rw [q] at e'; injection e' with e'; injection e' with e1 _
          exact ⟨h1, by omega⟩
        have hKL := hfl
        have hAN : ∀ b o, A5 = some ⟨b, o, none⟩ → wr.heap.size ≤ b := hfr5
        clear hb5 hm5 hbf5 hff5 hfr5 hfl
        obtain rfl : n = n5 := by rw [hn5, HI'.out.1, HL.out]
        rw [HI'.out.1] at hbt5
        have hA5l : ∀ b o, A5 = some ⟨b, o, none⟩ → b < w5.heap.size := fun b o q => by
          obtain ⟨b', o', e', hlt⟩ := hbt5.addr (by rw [HL.out]; omega)
          rw [q] at e'; injection e' with e'; injection e' with e1 _
          omega
        have P5 := HP.out.below hb45
        have O5 := HO.out.below hb45
        have G5 := chain HG.out hb45
        have hwr := HG.out.size
        have hPr := HP.out.1
        have z5 := hb45.size
        have hgr : gR < wr.heap.size := hgR
        clear p0 p1 p2 p3 p4 p5 p6 p7 p8 e0 e1 e2 e3 e4 e5 e6 e7 e8 zp HP HO HG HT HA2 hn5 hb45
        have p0 := P5.c 0 rfl
        have p1 := P5.c 1 rfl
        have p2 := P5.c 2 rfl
        have p3 := P5.c 3 rfl
        have p4 := P5.c 4 rfl
        have p5 := P5.c 5 rfl
        have p6 := P5.c 6 rfl
        have p7 := P5.c 7 rfl
        have p8 := P5.c 8 rfl
        have e0 := P5.f 0 rfl
        have e1 := P5.f 1 rfl
        have e2 := P5.f 2 rfl
        have e3 := P5.f 3 rfl
        have e4 := P5.f 4 rfl
        have e5 := P5.f 5 rfl
        have e6 := P5.f 6 rfl
        have e7 := P5.f 7 rfl
        have e8 := P5.f 8 rfl
        have zp := P5.1
        go_upto_region 12 with fail
        obtain ⟨w6, hw6⟩ : ∃ wx, wx = (((((((((w5.setCell ⟨P, 0, none⟩ (.slice A5 n c5)).setCell ⟨P, 1, none⟩ (.int .i64 s'.At)).setCell ⟨P, 2, none⟩ (.int .i64 s'.Nu)).setCell ⟨P, 3, none⟩ (.int .i64 s'.Bl)).setCell ⟨P, 4, none⟩ (.int .i64 s'.Se)).setCell ⟨P, 5, none⟩ (.bool s'.Wt)).setCell ⟨P, 6, none⟩ (.int .i64 s'.Gp)).setCell ⟨P, 7, none⟩ (.int .i64 s'.Dl)).setCell ⟨P, 8, none⟩ (.bool s'.Fl)) := ⟨_, rfl⟩
        have P6 : Cl P w6 [.slice A5 n c5, .int .i64 s'.At, .int .i64 s'.Nu, .int .i64 s'.Bl, .int .i64 s'.Se, .bool s'.Wt, .int .i64 s'.Gp, .int .i64 s'.Dl, .bool s'.Fl] := by rw [hw6]; exact P5.set9 (.slice A5 n c5) (.int .i64 s'.At) (.int .i64 s'.Nu) (.int .i64 s'.Bl) (.int .i64 s'.Se) (.bool s'.Wt) (.int .i64 s'.Gp) (.int .i64 s'.Dl) (.bool s'.Fl)
        have T6 : Bt w6 A5 l := by
          rw [hw6]
          exact hbt5.set9 (fun b o q h => by have := hAN b o q; omega) _ _ _ _ _ _ _ _ _
        have KB6 : Bt w6 B5 (fr) := by
          rw [hw6]
          exact KB.set9 (fun b o q h => by have := (hKN b o q).1; omega) _ _ _ _ _ _ _ _ _
        have O6 : Out w6 w.heap.size P gR cap fs := by rw [hw6]; exact O5.set9 (.slice A5 n c5) (.int .i64 s'.At) (.int .i64 s'.Nu) (.int .i64 s'.Bl) (.int .i64 s'.Se) (.bool s'.Wt) (.int .i64 s'.Gp) (.int .i64 s'.Dl) (.bool s'.Fl)
        have G6 : Below w.heap.size w w6 := by rw [hw6]; exact below_set9 G5 hPw _ _ _ _ _ _ _ _ _
        have z6 : w6.heap.size = w5.heap.size := by rw [hw6]; simp
        rw [← hw6]
        clear hw6 p0 p1 p2 p3 p4 p5 p6 p7 p8 e0 e1 e2 e3 e4 e5 e6 e7 e8 zp P5 O5 G5 hbt5 KB
        have Y6 : Sl w6 (Nb w.heap.size P gR) (.slice B5 8 d5) (fr) := ⟨_, _, by rw [hKL], by rw [hKL]; exact hd8, KB6, fun b o q => by have := hKN b o q; exact ⟨⟨by omega, by omega, by omega⟩, by omega⟩⟩
        have hAl : Below w6.heap.size w6 (w6.alloc (.cells #[.slice B5 8 d5] 22)) := (Below.refl _ _).alloc (Nat.le_refl _) _
        have Y7 := Y6.below hAl
        have O7 := O6.below hAl
        have HP6 := Lib.hid (P6.below hAl)
        have HT6 := Lib.hid (T6.below hAl)
        have HG6 := Lib.hid (G6.alloc G6.size (.cells #[.slice B5 8 d5] 22))
        have HAN := Lib.hid hAN
        have HA5 := Lib.hid hA5l
        have HZ6 := Lib.hid z6
        clear P6 T6 KB6 G6 hAN hA5l hKN O6 Y6 hAl z6
        go_wp2_with (at_builtin; go_loud (refine app_out rfl _ _ rfl w.heap.size P gR cap fs.length fs (fr) rfl rfl O7 w6.heap.size (.slice B5 8 d5) rfl ?c1 Y7 ?c2 ?c3 ?_))
        case c1 => exact (cells_new rfl [.slice B5 8 d5] 22) 0 _ rfl
        case c2 => omega
        try (case c3 => have := HZ6.out; simp; omega)
        have z6 := HZ6.out
        intro g' cap' w7 hO7 hK7 hne7 hb7
        have hz7 := hK7.1
        simp at hz7
        have P7 := HP6.out.kept hK7 (by omega)
        have T7 := HT6.out.kept hK7 (fun b o q => by have := HAN.out b o q; omega)
        have A7 : ∀ b o, A5 = some ⟨b, o, none⟩ → Nb w.heap.size P g' b ∧ b < w7.heap.size := fun b o q => by
          have h1 := HAN.out b o q
          have h2 := HA5.out b o q
          exact ⟨⟨by omega, by omega, hne7 b (by first | omega | (simp; omega)) (by omega)⟩, by omega⟩
        have G7 : Below w.heap.size w w7 := HG6.out.trans (hb7.mono (by omega))
        have hg7 : g' < w7.heap.size := by
          obtain ⟨_, xs', h1, _⟩ := hO7
          exact own_lt h1 g' rfl
        clear Y7 O7
        go_wp2_with fail
        go_roundg k
        case measure => omega
        case rel => exact ⟨s', A5, c5, fs ++ [fr], g', cap', HI'.out, hc5, P7, T7, A7, HRE.out, by simp, hO7, hg7, G7, by simp; omega⟩
      · have hP' : Cl P wr [.slice A2 n c2, .int .i64 s.At, .int .i64 s.Nu, .int .i64 s.Bl, .int .i64 s.Se, .bool true, .int .i64 s.Gp, .int .i64 s.Dl, .bool s.Fl] := by have := hP; rw [hw] at this; exact this
        have HP := Lib.hid hP'
        have p0 := HP.out.c 0 rfl
        have p1 := HP.out.c 1 rfl
        have p2 := HP.out.c 2 rfl
        have p3 := HP.out.c 3 rfl
        have p4 := HP.out.c 4 rfl
        have p5 := HP.out.c 5 rfl
        have p6 := HP.out.c 6 rfl
        have p7 := HP.out.c 7 rfl
        have p8 := HP.out.c 8 rfl
        have e0 := HP.out.f 0 rfl
        have e1 := HP.out.f 1 rfl
        have e2 := HP.out.f 2 rfl
        have e3 := HP.out.f 3 rfl
        have e4 := HP.out.f 4 rfl
        have e5 := HP.out.f 5 rfl
        have e6 := HP.out.f 6 rfl
        have e7 := HP.out.f 7 rfl
        have e8 := HP.out.f 8 rfl
        have zp := HP.out.1
        have HT := Lib.hid hT
        have HA2 := Lib.hid hA2
        have HO := Lib.hid hout
        have HG := Lib.hid hg
        have HF := Lib.hid hfs
        obtain ⟨s', hs', hI', hat, hw', hdl, hre⟩ := step_ctl b0 b1 g0 g1 hI hlt hw D0 (Int.le_refl _)
        have K27 : ∀ w F, Bt w A2 l → Bt w F (pad [48, b, g]) → Calls Try.prog 27 #[.agg #[.slice A2 n c2, .int .i64 s.At, .int .i64 s.Nu, .int .i64 s.Bl, .int .i64 s.Se, .bool true, .int .i64 s.Gp, .int .i64 s.Dl, .bool s.Fl], .slice F 8 8, .int .i64 s.Dl] w (S2 s' 0 w) := fun w F h h2 => by
          have := ctl27 A2 n c2 s.At s.Nu s.Bl s.Se s.Wt s.Gp s.Dl s.Fl l F 8 8 (pad [48, b, g]) s.Dl w HL.out h hc2 (pad_len (by simp)) h2 (byt_go b0 b1 g0 g1) (Nat.le_refl _) (ok_of hI HL.out) (time_of hI)
          rw [← SS.eta hI.1, hs', hw] at this
          exact this
        replace K27 := Lib.hid K27
        have HI' := Lib.hid hI'
        have HRE := Lib.hid (show (fs ++ [pad [48, b, g]]) ++ rem l b g k s' = allM l b g by rw [← hfs, hre]; simp)
        have hlt' : s.At < (n : Int) := by rw [← HL.out]; exact hlt
        have hd1 : decide (s.At < (n : Int)) = true := by simp [hlt']
        clear hP hP' hT hA2 hout hg hfs hI hw hlt hre hs' hI' hat hw' hdl
        go_wp2_with fail
        refine (goOn34 b g _ b0 b1 g0 (by omega)).mono ?_
        rintro x w4 ⟨kf, rfl, hk0, hk1, hkb, hb4⟩
        have P4 := HP.out.below hb4
        have T4 := HT.out.below hb4
        have z4 := hb4.size
        clear p0 p1 p2 p3 p4 p5 p6 p7 p8 e0 e1 e2 e3 e4 e5 e6 e7 e8 zp
        have p0 := P4.c 0 rfl
        have p1 := P4.c 1 rfl
        have p2 := P4.c 2 rfl
        have p3 := P4.c 3 rfl
        have p4 := P4.c 4 rfl
        have p5 := P4.c 5 rfl
        have p6 := P4.c 6 rfl
        have p7 := P4.c 7 rfl
        have p8 := P4.c 8 rfl
        have e0 := P4.f 0 rfl
        have e1 := P4.f 1 rfl
        have e2 := P4.f 2 rfl
        have e3 := P4.f 3 rfl
        have e4 := P4.f 4 rfl
        have e5 := P4.f 5 rfl
        have e6 := P4.f 6 rfl
        have e7 := P4.f 7 rfl
        have e8 := P4.f 8 rfl
        have zp := P4.1
        go_wp2_with fail
        refine (K27.out _ _ T4 hkb).mono ?_
        rintro x w5 ⟨A5, n5, c5, rfl, hn5, hc5, hbt5, hfr5, hb5⟩
        have hb45 : Below wr.heap.size wr w5 := hb4.trans (hb5.mono z4)
        have KB : Bt w5 (some ⟨kf, 0, none⟩) (pad [48, b, g]) := hkb.below hb5
        have hKN : ∀ b o, (some ⟨kf, 0, none⟩ : Option Addr) = some ⟨b, o, none⟩ → wr.heap.size ≤ b ∧ b < w5.heap.size := fun b o q => by injection q with q; injection q with q _; subst q; exact ⟨hk0, Nat.lt_of_lt_of_le hk1 hb5.size⟩
        have hKL : (pad [48, b, g]).length = 8 := pad_len (by simp)
        have hAN : ∀ b o, A5 = some ⟨b, o, none⟩ → wr.heap.size ≤ b := fun b o q => Nat.le_trans z4 (hfr5 b o q)
        have hd8 : 8 ≤ 8 := Nat.le_refl _
        clear P4 T4 hb4 hk0 hk1 hkb hb5 hfr5 z4
        obtain rfl : n = n5 := by rw [hn5, HI'.out.1, HL.out]
        rw [HI'.out.1] at hbt5
        have hA5l : ∀ b o, A5 = some ⟨b, o, none⟩ → b < w5.heap.size := fun b o q => by
          obtain ⟨b', o', e', hlt⟩ := hbt5.addr (by rw [HL.out]; omega)
          rw [q] at e'; injection e' with e'; injection e' with e1 _
          omega
        have P5 := HP.out.below hb45
        have O5 := HO.out.below hb45
        have G5 := chain HG.out hb45
        have hwr := HG.out.size
        have hPr := HP.out.1
        have z5 := hb45.size
        have hgr : gR < wr.heap.size := hgR
        clear p0 p1 p2 p3 p4 p5 p6 p7 p8 e0 e1 e2 e3 e4 e5 e6 e7 e8 zp HP HO HG HT HA2 hn5 hb45
        have p0 := P5.c 0 rfl
        have p1 := P5.c 1 rfl
        have p2 := P5.c 2 rfl
        have p3 := P5.c 3 rfl
        have p4 := P5.c 4 rfl
        have p5 := P5.c 5 rfl
        have p6 := P5.c 6 rfl
        have p7 := P5.c 7 rfl
        have p8 := P5.c 8 rfl
        have e0 := P5.f 0 rfl
        have e1 := P5.f 1 rfl
        have e2 := P5.f 2 rfl
        have e3 := P5.f 3 rfl
        have e4 := P5.f 4 rfl
        have e5 := P5.f 5 rfl
        have e6 := P5.f 6 rfl
        have e7 := P5.f 7 rfl
        have e8 := P5.f 8 rfl
        have zp := P5.1
        go_upto_region 12 with fail
        obtain ⟨w6, hw6⟩ : ∃ wx, wx = (((((((((w5.setCell ⟨P, 0, none⟩ (.slice A5 n c5)).setCell ⟨P, 1, none⟩ (.int .i64 s'.At)).setCell ⟨P, 2, none⟩ (.int .i64 s'.Nu)).setCell ⟨P, 3, none⟩ (.int .i64 s'.Bl)).setCell ⟨P, 4, none⟩ (.int .i64 s'.Se)).setCell ⟨P, 5, none⟩ (.bool s'.Wt)).setCell ⟨P, 6, none⟩ (.int .i64 s'.Gp)).setCell ⟨P, 7, none⟩ (.int .i64 s'.Dl)).setCell ⟨P, 8, none⟩ (.bool s'.Fl)) := ⟨_, rfl⟩
        have P6 : Cl P w6 [.slice A5 n c5, .int .i64 s'.At, .int .i64 s'.Nu, .int .i64 s'.Bl, .int .i64 s'.Se, .bool s'.Wt, .int .i64 s'.Gp, .int .i64 s'.Dl, .bool s'.Fl] := by rw [hw6]; exact P5.set9 (.slice A5 n c5) (.int .i64 s'.At) (.int .i64 s'.Nu) (.int .i64 s'.Bl) (.int .i64 s'.Se) (.bool s'.Wt) (.int .i64 s'.Gp) (.int .i64 s'.Dl) (.bool s'.Fl)
        have T6 : Bt w6 A5 l := by
          rw [hw6]
          exact hbt5.set9 (fun b o q h => by have := hAN b o q; omega) _ _ _ _ _ _ _ _ _
        have KB6 : Bt w6 (some ⟨kf, 0, none⟩) (pad [48, b, g]) := by
          rw [hw6]
          exact KB.set9 (fun b o q h => by have := (hKN b o q).1; omega) _ _ _ _ _ _ _ _ _
        have O6 : Out w6 w.heap.size P gR cap fs := by rw [hw6]; exact O5.set9 (.slice A5 n c5) (.int .i64 s'.At) (.int .i64 s'.Nu) (.int .i64 s'.Bl) (.int .i64 s'.Se) (.bool s'.Wt) (.int .i64 s'.Gp) (.int .i64 s'.Dl) (.bool s'.Fl)
        have G6 : Below w.heap.size w w6 := by rw [hw6]; exact below_set9 G5 hPw _ _ _ _ _ _ _ _ _
        have z6 : w6.heap.size = w5.heap.size := by rw [hw6]; simp
        rw [← hw6]
        clear hw6 p0 p1 p2 p3 p4 p5 p6 p7 p8 e0 e1 e2 e3 e4 e5 e6 e7 e8 zp P5 O5 G5 hbt5 KB
        have Y6 : Sl w6 (Nb w.heap.size P gR) (.slice (some ⟨kf, 0, none⟩) 8 8) (pad [48, b, g]) := ⟨_, _, by rw [hKL], by rw [hKL]; exact hd8, KB6, fun b o q => by have := hKN b o q; exact ⟨⟨by omega, by omega, by omega⟩, by omega⟩⟩
        have hAl : Below w6.heap.size w6 (w6.alloc (.cells #[.slice (some ⟨kf, 0, none⟩) 8 8] 22)) := (Below.refl _ _).alloc (Nat.le_refl _) _
        have Y7 := Y6.below hAl
        have O7 := O6.below hAl
        have HP6 := Lib.hid (P6.below hAl)
        have HT6 := Lib.hid (T6.below hAl)
        have HG6 := Lib.hid (G6.alloc G6.size (.cells #[.slice (some ⟨kf, 0, none⟩) 8 8] 22))
        have HAN := Lib.hid hAN
        have HA5 := Lib.hid hA5l
        have HZ6 := Lib.hid z6
        clear P6 T6 KB6 G6 hAN hA5l hKN O6 Y6 hAl z6
        go_wp2_with (at_builtin; go_loud (refine app_out rfl _ _ rfl w.heap.size P gR cap fs.length fs (pad [48, b, g]) rfl rfl O7 w6.heap.size (.slice (some ⟨kf, 0, none⟩) 8 8) rfl ?c1 Y7 ?c2 ?c3 ?_))
        case c1 => exact (cells_new rfl [.slice (some ⟨kf, 0, none⟩) 8 8] 22) 0 _ rfl
        case c2 => omega
        try (case c3 => have := HZ6.out; simp; omega)
        have z6 := HZ6.out
        intro g' cap' w7 hO7 hK7 hne7 hb7
        have hz7 := hK7.1
        simp at hz7
        have P7 := HP6.out.kept hK7 (by omega)
        have T7 := HT6.out.kept hK7 (fun b o q => by have := HAN.out b o q; omega)
        have A7 : ∀ b o, A5 = some ⟨b, o, none⟩ → Nb w.heap.size P g' b ∧ b < w7.heap.size := fun b o q => by
          have h1 := HAN.out b o q
          have h2 := HA5.out b o q
          exact ⟨⟨by omega, by omega, hne7 b (by first | omega | (simp; omega)) (by omega)⟩, by omega⟩
        have G7 : Below w.heap.size w w7 := HG6.out.trans (hb7.mono (by omega))
        have hg7 : g' < w7.heap.size := by
          obtain ⟨_, xs', h1, _⟩ := hO7
          exact own_lt h1 g' rfl
        clear Y7 O7
        go_wp2_with fail
        go_roundg k
        case measure => omega
        case rel => exact ⟨s', A5, c5, fs ++ [pad [48, b, g]], g', cap', HI'.out, hc5, P7, T7, A7, HRE.out, by simp, hO7, hg7, G7, by simp; omega⟩
    · have hge : ¬ s.At < (n : Int) := by rw [← HL.out]; exact hlt
      have hd1 : decide (s.At < (n : Int)) = false := by simp; omega
      have hrem : rem l b g gk s = [] := carM_end _ _ _ _ _ _ _ _ (by omega)
      have hall : fs = allM l b g := by rw [hrem, List.append_nil] at hfs; exact hfs
      have HAL := Lib.hid hall
      have HP := Lib.hid hP
      have HO := Lib.hid hout
      have HG := Lib.hid hg
      clear hP hT hA2 hfs hout hg hI hlt hge hrem hall
      have p0 := HP.out.c 0 rfl
      have p1 := HP.out.c 1 rfl
      have p2 := HP.out.c 2 rfl
      have p3 := HP.out.c 3 rfl
      have p4 := HP.out.c 4 rfl
      have p5 := HP.out.c 5 rfl
      have p6 := HP.out.c 6 rfl
      have p7 := HP.out.c 7 rfl
      have p8 := HP.out.c 8 rfl
      have zp := HP.out.1
      go_wp2_with fail
      obtain ⟨_, xs, hrow, hrw⟩ := HO.out
      obtain ⟨A', c', hv, hA', hc', _⟩ := own_slice hrow
      injection hv with hv1 _ hv3
      subst hv3
      have hlen0 : 0 < fs.length ∨ xs = [] := by
        rcases Nat.eq_zero_or_pos fs.length with h0 | h0
        · exact .inr (List.eq_nil_of_length_eq_zero (by rw [hrw.1]; exact h0))
        · exact .inl h0
      refine bodyPost_ret (v := .tuple #[.slice (some ⟨gR, 0, none⟩) fs.length cap, .int .i64 0]) (by simp [results, Try.results12, go_sem] <;> first | rfl | ((repeat' apply And.intro) <;> rfl)) rfl ⟨gR, fs.length, cap, xs, rfl, by rw [← HAL.out], hc', by omega, hgR, fun j u hj => ?_, ?_, HG.out⟩
      · rcases hlen0 with h0 | h0
        · obtain ⟨b', e, _, _, hcell⟩ := hA' h0
          rw [← hv1] at e
          injection e with e; injection e with e
          subst e
          exact hcell j u hj
        · rw [h0] at hj; simp at hj
      · rw [← HAL.out]
        exact hrw.imp (fun b _ hb => hb.1)
end Go.Proofs.Ytfjeediecmhedaa
