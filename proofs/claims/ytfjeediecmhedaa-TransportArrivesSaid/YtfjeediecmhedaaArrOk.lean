/-
  The law TransportArrives of every input. No condition but the slice's shape.
-/
import Derived.Test.YtfjeediecmhedaaArrD
set_option linter.unusedVariables false
set_option linter.unusedSimpArgs false
namespace Go.Proofs.Ytfjeediecmhedaa
open Go.RowKit
set_option maxRecDepth 100000 in
set_option maxHeartbeats 16000000 in
theorem arrives_ok (A : Option Addr) (n c : Nat) (l : List Int) (B dl : Int) (w : World) (hl : l.length = n) (hb : Bt w A l) (hB : Byt l) (hc : n ≤ c) (b0 : 0 ≤ B) (b1 : B ≤ 255) (dl0 : 0 ≤ dl) (dl1 : dl ≤ 65535) (hm : msgB n = true) : Calls Try.prog 7 #[.slice A n c, .int .u8 B, .int .u16 dl] w fun x w' => x = .returned (.bool true) ∧ Below w.heap.size w w' := by
  have M := fun w => message11 A n c w
  rw [hm] at M
  replace M := Lib.hid M
  obtain ⟨m0, m1⟩ : 1 ≤ n ∧ n ≤ 1023 := by simpa [msgB] using hm
  obtain ⟨s0, K, hAR, hs0⟩ := send_arr A n c l B hl hc hm
  replace K := Lib.hid K
  have HAR := Lib.hid hAR
  have HS0 := Lib.hid hs0
  obtain ⟨q, hq⟩ : ∃ q, q = n / 7 := ⟨_, rfl⟩
  have hq2 : q ≤ 146 := by omega
  have HQ := Lib.hid hq
  have HB := Lib.hid hb
  have HL := Lib.hid hl
  have HBY := Lib.hid hB
  have hg8 : (gfr l 0).length = 8 := gfr_len (by omega) 0
  have HG8 := Lib.hid hg8
  clear hb hl hB hm hq hAR hs0 hg8
  go_enter Try.func7, Try.ntmps7
  go_wp2_with fail
  refine (awake10 _).mono ?_
  rintro x w1 ⟨rfl, hb1⟩
  have hg1 := chain (w := w) (by go_grown) hb1
  go_wp2_with fail
  refine (M.out _).mono ?_
  rintro x w2 ⟨rfl, rfl⟩
  go_wp2_with fail
  refine (K.out _ (HB.out.below hg1)).mono ?_
  rintro x w2 ⟨A1, n1, c1, B1, q1, d1, rfl, hn1, hc1, hbt1, hfr1, hm1, hd1, hbf1, hff1, hb2⟩
  obtain rfl : n = n1 := by rw [hn1, HS0.out, HL.out]
  obtain rfl : 8 = q1 := by rw [hm1, HG8.out]
  have hg2 := chain hg1 hb2
  have hz2 := hg2.size
  obtain ⟨P, hP⟩ : ∃ P, P = w2.heap.size := ⟨_, rfl⟩
  have C1 := Cl.new (w := w2) hP [.slice A1 n c1, .int .i64 (s0).At, .int .i64 (s0).Nu, .int .i64 (s0).Bl, .int .i64 (s0).Se, .bool (s0).Wt, .int .i64 (s0).Gp, .int .i64 (s0).Dl, .bool (s0).Fl] 40
  have hA1 : ∀ b o, A1 = some ⟨b, o, none⟩ → b < P := fun b o e => by
    obtain ⟨b', o', e', hlt⟩ := hbt1.addr (by rw [HS0.out, HL.out]; omega)
    rw [e] at e'; injection e' with e'; injection e' with e1 _; omega
  have hB1 : ∀ b o, B1 = some ⟨b, o, none⟩ → b < P := fun b o e => by
    obtain ⟨b', o', e', hlt⟩ := hbf1.addr (by rw [HG8.out]; decide)
    rw [e] at e'; injection e' with e'; injection e' with e1 _; omega
  have HC1 := Lib.hid C1
  have HT1 := Lib.hid hbt1
  have HF1 := Lib.hid hbf1
  have HA1 := Lib.hid hA1
  have HB1 := Lib.hid hB1
  have HP := Lib.hid hP
  have HG2 := Lib.hid hg2
  clear C1 hbt1 hbf1 hA1 hB1 hP hn1 hm1 hfr1 hff1 hg1 hg2 hb1 hb2
  go_upto_region 5 with fail
  obtain ⟨w3, hw3⟩ : ∃ wx, wx = w2.alloc (.cells #[.slice A1 n c1, .int .i64 (s0).At, .int .i64 (s0).Nu, .int .i64 (s0).Bl, .int .i64 (s0).Se, .bool (s0).Wt, .int .i64 (s0).Gp, .int .i64 (s0).Dl, .bool (s0).Fl] 40) := ⟨_, rfl⟩
  have al3 : Below w2.heap.size w2 w3 := by rw [hw3]; exact (Below.refl _ _).alloc (Nat.le_refl _) _
  have z3 : w3.heap.size = P + 1 := by rw [hw3, HP.out]; simp
  have C3 : Cl P w3 [.slice A1 n c1, .int .i64 (s0).At, .int .i64 (s0).Nu, .int .i64 (s0).Bl, .int .i64 (s0).Se, .bool (s0).Wt, .int .i64 (s0).Gp, .int .i64 (s0).Dl, .bool (s0).Fl] := by rw [hw3]; exact HC1.out
  have hPe := HP.out
  rw [← hw3, ← hPe]
  have hal4 : Below w3.heap.size w3 (w3.alloc (.cells #[.slice none 0 0, .int .i64 0, .int .i64 0, .int .i64 B, .int .i64 0, .bool false, .bool false, .int .i64 0, .bool false] 30)) := (Below.refl _ _).alloc (Nat.le_refl _) _
  have hwP : w.heap.size ≤ P := by omega
  have HST := Lib.hid (show ST w P (P + 1) n (w3.alloc (.cells #[.slice none 0 0, .int .i64 0, .int .i64 0, .int .i64 B, .int .i64 0, .bool false, .bool false, .int .i64 0, .bool false] 30)) s0 A1 c1 (rz B) none 0 0 B1 (gfr l 0) from
    ⟨⟨C3.below hal4, (HT1.out.below al3).below hal4, fun b o e => by have := HA1.out b o e; omega⟩, ⟨Cl.new z3.symm [.slice none 0 0, .int .i64 0, .int .i64 0, .int .i64 B, .int .i64 0, .bool false, .bool false, .int .i64 0, .bool false] 30, Bt.nil _ _, fun b o e => by cases e⟩, ⟨(HF1.out.below al3).below hal4, fun b o e => by have := HB1.out b o e; omega⟩, chain (chain HG2.out al3) hal4, by omega, hwP, by omega⟩)
  have HZ3 := Lib.hid z3
  clear hw3 al3 z3 C3 hPe hal4 HC1 HT1 HF1 HA1 HB1 HP HG2 K M
  go_upto_region 9 with fail
  obtain ⟨R, hR⟩ : ∃ R, R = P + 1 := ⟨_, rfl⟩
  rw [HZ3.out, ← hR]
  rw [← hR] at HST
  have hRP : R = P + 1 := hR
  have HRP := Lib.hid hRP
  clear hR hRP HZ3
  have dv : (n : Int) / 7 = (q : Int) := by have := HQ.out; omega
  go_upto_region 10 with fail
  go_loopg [7, 9, 10, 12, 43] (q + 2) (fun gk v7 v9 v10 v12 v43 wr => ∃ (j : Nat) (s : SS) (r : RS) (now row : Int) (As : Option Addr) (cs : Nat) (Ar : Option Addr) (nr cr : Nat) (F : Option Addr) (cF : Nat), q + 2 - j ≤ gk ∧ AR l B j s r now row ∧ s.l = l ∧ v7 = .int .i64 now ∧ v9 = .slice F 8 cF ∧ 8 ≤ cF ∧ v12 = .int .i64 row ∧ v43 = .int .i64 j ∧ n ≤ cs ∧ nr = r.l.length ∧ nr ≤ cr ∧ ST w P R n wr s As cs r Ar nr cr F (gfr l j))
  case atStart => exact ⟨0, s0, rz B, 0, 0, A1, c1, none, 0, 0, B1, d1, by omega, HAR.out, HS0.out, rfl, rfl, hd1, rfl, rfl, hc1, rfl, Nat.le_refl _, HST.out⟩
  case round =>
    clear HST HAR HS0 HG8
    obtain ⟨j, s, r, now, row, As, cs, Ar, nr, cr, F, cF, hgk, hAR, hsl, rfl, rfl, hcF, rfl, rfl, hcs, hnr, hcr, hST⟩ := hrel
    have hl1 : 1 ≤ l.length := by rw [HL.out]; exact m0
    have hl2 : l.length ≤ 1023 := by rw [HL.out]; exact m1
    obtain ⟨okr, hdn, hj, t0, t1, r0, r1, hR⟩ := arr_step hl1 hl2 b0 b1 hAR
    have hjq : j ≤ q := by have := HQ.out; have := HL.out; omega
    have dj : decide ((j : Int) < 2 + (q : Int)) = true := by simp; omega
    have htm : timeB now = true := inB_mk t0 (by omega)
    have KR := fun w h h2 => recv13_ok Ar nr cr r F 8 cF (gfr l j) now w hnr.symm h hcr (gfr_len hl1 j) h2 (byt_gfr HBY.out hl2 j) hcF okr htm
    have HST := Lib.hid hST
    have HSL := Lib.hid hsl
    rcases hR with ⟨hr, hat⟩ | ⟨r5, ans, hr, hbu, hdn2, hok, _, hj1, hwt, hgo, hst⟩
    · rw [hr] at KR
      replace KR := Lib.hid KR
      have HAT := Lib.hid (show s.At = (n : Int) by rw [hat, HL.out])
      clear hr hat hAR hST hsl hdn okr htm hnr
      obtain ⟨r5, hr5⟩ : ∃ r5, r5 = dn l B := ⟨_, rfl⟩
      have HR5 := Lib.hid hr5
      rw [← hr5] at KR
      clear hr5
      have q0 := HST.out.2.1.1.c 0 rfl
      have q1 := HST.out.2.1.1.c 1 rfl
      have q2 := HST.out.2.1.1.c 2 rfl
      have q3 := HST.out.2.1.1.c 3 rfl
      have q4 := HST.out.2.1.1.c 4 rfl
      have q5 := HST.out.2.1.1.c 5 rfl
      have q6 := HST.out.2.1.1.c 6 rfl
      have q7 := HST.out.2.1.1.c 7 rfl
      have q8 := HST.out.2.1.1.c 8 rfl
      have qf0 := HST.out.2.1.1.f 0 rfl
      have qf1 := HST.out.2.1.1.f 1 rfl
      have qf2 := HST.out.2.1.1.f 2 rfl
      have qf3 := HST.out.2.1.1.f 3 rfl
      have qf4 := HST.out.2.1.1.f 4 rfl
      have qf5 := HST.out.2.1.1.f 5 rfl
      have qf6 := HST.out.2.1.1.f 6 rfl
      have qf7 := HST.out.2.1.1.f 7 rfl
      have qf8 := HST.out.2.1.1.f 8 rfl
      go_wp2_with fail
      refine (KR.out _ HST.out.2.1.2.1 HST.out.2.2.1.1).mono ?_
      rintro x w5 ⟨A5, n5, c5, B5, m5, d5, rfl, hn5, hc5, hbt5, hfr5, hm5, hd5, hbf5, hff5, hb5⟩
      have S5 := HST.out.below hb5
      have hz5 := hb5.size
      have hPl : P < wr.heap.size := HST.out.1.1.1
      have hRl : R < wr.heap.size := HST.out.2.1.1.1
      have S6 := S5.setR r5 A5 n5 c5 hbt5 (fun b o e => by have := hfr5 b o e; omega)
      have T6 := hbf5.set9 (P := R) (fun b o e => by have := hff5 b o e; omega) (.slice A5 n5 c5) (.int .i64 r5.Le) (.int .i64 r5.Nu) (.int .i64 r5.Bl) (.int .i64 r5.Gt) (.bool r5.Bu) (.bool r5.Dn) (.int .i64 r5.Dl) (.bool r5.Fl)
      have hBN : ∀ b o, B5 = some ⟨b, o, none⟩ → b ≠ P ∧ b ≠ R := fun b o e => by have := hff5 b o e; omega
      have HST5 := Lib.hid S5
      have HST6 := Lib.hid S6
      have HT6 := Lib.hid T6
      have HBN := Lib.hid hBN
      have HN5 := Lib.hid hn5
      clear q0 qf0 q1 qf1 q2 qf2 q3 qf3 q4 qf4 q5 qf5 q6 qf6 q7 qf7 q8 qf8 S5 S6 T6 hBN hbt5 hfr5 hbf5 hff5 hb5 hn5 HST
      have q0 := HST5.out.2.1.1.c 0 rfl
      have q1 := HST5.out.2.1.1.c 1 rfl
      have q2 := HST5.out.2.1.1.c 2 rfl
      have q3 := HST5.out.2.1.1.c 3 rfl
      have q4 := HST5.out.2.1.1.c 4 rfl
      have q5 := HST5.out.2.1.1.c 5 rfl
      have q6 := HST5.out.2.1.1.c 6 rfl
      have q7 := HST5.out.2.1.1.c 7 rfl
      have q8 := HST5.out.2.1.1.c 8 rfl
      have qf0 := HST5.out.2.1.1.f 0 rfl
      have qf1 := HST5.out.2.1.1.f 1 rfl
      have qf2 := HST5.out.2.1.1.f 2 rfl
      have qf3 := HST5.out.2.1.1.f 3 rfl
      have qf4 := HST5.out.2.1.1.f 4 rfl
      have qf5 := HST5.out.2.1.1.f 5 rfl
      have qf6 := HST5.out.2.1.1.f 6 rfl
      have qf7 := HST5.out.2.1.1.f 7 rfl
      have qf8 := HST5.out.2.1.1.f 8 rfl
      go_upto_region 13 with fail
      obtain ⟨w6, hw6⟩ : ∃ wx, wx = (((((((((w5.setCell ⟨R, 0, none⟩ (.slice A5 n5 c5)).setCell ⟨R, 1, none⟩ (.int .i64 r5.Le)).setCell ⟨R, 2, none⟩ (.int .i64 r5.Nu)).setCell ⟨R, 3, none⟩ (.int .i64 r5.Bl)).setCell ⟨R, 4, none⟩ (.int .i64 r5.Gt)).setCell ⟨R, 5, none⟩ (.bool r5.Bu)).setCell ⟨R, 6, none⟩ (.bool r5.Dn)).setCell ⟨R, 7, none⟩ (.int .i64 r5.Dl)).setCell ⟨R, 8, none⟩ (.bool r5.Fl)) := ⟨_, rfl⟩
      rw [← hw6] at HST6 HT6 ⊢
      clear hw6 q0 qf0 q1 qf1 q2 qf2 q3 qf3 q4 qf4 q5 qf5 q6 qf6 q7 qf7 q8 qf8 HST5
      have hS6 := HST6.out
      rw [HR5.out] at hS6
      have hn6 : n5 = n := by rw [HN5.out, HR5.out]; exact HL.out
      subst hn6
      have q0 : w6.cell? ⟨R, 0, none⟩ = some (.slice A5 n5 c5) := hS6.2.1.1.c 0 rfl
      have q1 : w6.cell? ⟨R, 1, none⟩ = some (.int .i64 n5) := by have := hS6.2.1.1.c 1 rfl; rw [show (dn l B).Le = (n5 : Int) from by show (l.length : Int) = n5; rw [HL.out]] at this; exact this
      have q6 : w6.cell? ⟨R, 6, none⟩ = some (.bool true) := hS6.2.1.1.c 6 rfl
      have q8 : w6.cell? ⟨R, 8, none⟩ = some (.bool false) := hS6.2.1.1.c 8 rfl
      have p1 : w6.cell? ⟨P, 1, none⟩ = some (.int .i64 n5) := by have := hS6.1.1.c 1 rfl; rw [HAT.out] at this; exact this
      have E := Lib.hid (equal18 A5 A n5 c5 c l w6 HL.out hS6.2.1.2.1 (HB.out.below hS6.2.2.2.1))
      have HEND := Lib.hid hS6.2.2.2.1
      clear hS6 HST6 HT6
      go_wp2_with fail
      refine E.out.mono ?_
      rintro x w7 ⟨rfl, rfl⟩
      go_wp2
      go_ret
      exact ⟨rfl, HEND.out⟩
    · rw [hr] at KR
      have HBU := Lib.hid hbu
      have HDN := Lib.hid hdn2
      have HOK := Lib.hid hok
      have HL1 := Lib.hid hl1
      clear hr hAR hST hsl hdn okr htm hnr hbu hdn2 hok hl1 hl2
      cases hw : s.Wt
      · obtain ⟨hdl, s2, hnx, hA2⟩ := hst hw
        have HNX := Lib.hid hnx
        have HAR2 := Lib.hid hA2
        have HDL := Lib.hid hdl
        have HS2L := Lib.hid hA2.sl
        clear hst hgo hnx hA2 hdl
        obtain rfl : ans = [] := by rcases hwt with ⟨h, e⟩ | ⟨h, e⟩ <;> first | exact e | (rw [hw] at h; cases h)
        replace KR := Lib.hid KR
        have HW := Lib.hid hw
        clear hwt hw
        have q0 := HST.out.2.1.1.c 0 rfl
        have q1 := HST.out.2.1.1.c 1 rfl
        have q2 := HST.out.2.1.1.c 2 rfl
        have q3 := HST.out.2.1.1.c 3 rfl
        have q4 := HST.out.2.1.1.c 4 rfl
        have q5 := HST.out.2.1.1.c 5 rfl
        have q6 := HST.out.2.1.1.c 6 rfl
        have q7 := HST.out.2.1.1.c 7 rfl
        have q8 := HST.out.2.1.1.c 8 rfl
        have qf0 := HST.out.2.1.1.f 0 rfl
        have qf1 := HST.out.2.1.1.f 1 rfl
        have qf2 := HST.out.2.1.1.f 2 rfl
        have qf3 := HST.out.2.1.1.f 3 rfl
        have qf4 := HST.out.2.1.1.f 4 rfl
        have qf5 := HST.out.2.1.1.f 5 rfl
        have qf6 := HST.out.2.1.1.f 6 rfl
        have qf7 := HST.out.2.1.1.f 7 rfl
        have qf8 := HST.out.2.1.1.f 8 rfl
        go_wp2_with fail
        refine (KR.out _ HST.out.2.1.2.1 HST.out.2.2.1.1).mono ?_
        rintro x w5 ⟨A5, n5, c5, B5, m5, d5, rfl, hn5, hc5, hbt5, hfr5, hm5, hd5, hbf5, hff5, hb5⟩
        obtain rfl : m5 = 0 := hm5
        have S5 := HST.out.below hb5
        have hz5 := hb5.size
        have hPl : P < wr.heap.size := HST.out.1.1.1
        have hRl : R < wr.heap.size := HST.out.2.1.1.1
        have S6 := S5.setR r5 A5 n5 c5 hbt5 (fun b o e => by have := hfr5 b o e; omega)
        have T6 := hbf5.set9 (P := R) (fun b o e => by have := hff5 b o e; omega) (.slice A5 n5 c5) (.int .i64 r5.Le) (.int .i64 r5.Nu) (.int .i64 r5.Bl) (.int .i64 r5.Gt) (.bool r5.Bu) (.bool r5.Dn) (.int .i64 r5.Dl) (.bool r5.Fl)
        have hBN : ∀ b o, B5 = some ⟨b, o, none⟩ → b ≠ P ∧ b ≠ R := fun b o e => by have := hff5 b o e; omega
        have HST5 := Lib.hid S5
        have HST6 := Lib.hid S6
        have HT6 := Lib.hid T6
        have HBN := Lib.hid hBN
        have HN5 := Lib.hid hn5
        clear q0 qf0 q1 qf1 q2 qf2 q3 qf3 q4 qf4 q5 qf5 q6 qf6 q7 qf7 q8 qf8 S5 S6 T6 hBN hbt5 hfr5 hbf5 hff5 hb5 hn5 HST
        have q0 := HST5.out.2.1.1.c 0 rfl
        have q1 := HST5.out.2.1.1.c 1 rfl
        have q2 := HST5.out.2.1.1.c 2 rfl
        have q3 := HST5.out.2.1.1.c 3 rfl
        have q4 := HST5.out.2.1.1.c 4 rfl
        have q5 := HST5.out.2.1.1.c 5 rfl
        have q6 := HST5.out.2.1.1.c 6 rfl
        have q7 := HST5.out.2.1.1.c 7 rfl
        have q8 := HST5.out.2.1.1.c 8 rfl
        have qf0 := HST5.out.2.1.1.f 0 rfl
        have qf1 := HST5.out.2.1.1.f 1 rfl
        have qf2 := HST5.out.2.1.1.f 2 rfl
        have qf3 := HST5.out.2.1.1.f 3 rfl
        have qf4 := HST5.out.2.1.1.f 4 rfl
        have qf5 := HST5.out.2.1.1.f 5 rfl
        have qf6 := HST5.out.2.1.1.f 6 rfl
        have qf7 := HST5.out.2.1.1.f 7 rfl
        have qf8 := HST5.out.2.1.1.f 8 rfl
        go_upto_region 13 with fail
        obtain ⟨w6, hw6⟩ : ∃ wx, wx = (((((((((w5.setCell ⟨R, 0, none⟩ (.slice A5 n5 c5)).setCell ⟨R, 1, none⟩ (.int .i64 r5.Le)).setCell ⟨R, 2, none⟩ (.int .i64 r5.Nu)).setCell ⟨R, 3, none⟩ (.int .i64 r5.Bl)).setCell ⟨R, 4, none⟩ (.int .i64 r5.Gt)).setCell ⟨R, 5, none⟩ (.bool r5.Bu)).setCell ⟨R, 6, none⟩ (.bool r5.Dn)).setCell ⟨R, 7, none⟩ (.int .i64 r5.Dl)).setCell ⟨R, 8, none⟩ (.bool r5.Fl)) := ⟨_, rfl⟩
        rw [← hw6] at HST6 HT6 ⊢
        clear hw6 q0 qf0 q1 qf1 q2 qf2 q3 qf3 q4 qf4 q5 qf5 q6 qf6 q7 qf7 q8 qf8 HST5
        have q5 : w6.cell? ⟨R, 5, none⟩ = some (.bool true) := by have := HST6.out.2.1.1.c 5 rfl; rw [HBU.out] at this; exact this
        have q6 : w6.cell? ⟨R, 6, none⟩ = some (.bool false) := by have := HST6.out.2.1.1.c 6 rfl; rw [HDN.out] at this; exact this
        have hC8 : Cl P w6 [.slice As n cs, .int .i64 s.At, .int .i64 s.Nu, .int .i64 s.Bl, .int .i64 s.Se, .bool false, .int .i64 s.Gp, .int .i64 (now), .bool s.Fl] := by have := HST6.out.1.1; rw [HW.out, HDL.out] at this; exact this
        have HC8 := Lib.hid hC8
        clear hC8
        have p0 := HC8.out.c 0 rfl
        have p1 := HC8.out.c 1 rfl
        have p2 := HC8.out.c 2 rfl
        have p3 := HC8.out.c 3 rfl
        have p4 := HC8.out.c 4 rfl
        have p5 := HC8.out.c 5 rfl
        have p6 := HC8.out.c 6 rfl
        have p7 := HC8.out.c 7 rfl
        have p8 := HC8.out.c 8 rfl
        have pf0 := HC8.out.f 0 rfl
        have pf1 := HC8.out.f 1 rfl
        have pf2 := HC8.out.f 2 rfl
        have pf3 := HC8.out.f 3 rfl
        have pf4 := HC8.out.f 4 rfl
        have pf5 := HC8.out.f 5 rfl
        have pf6 := HC8.out.f 6 rfl
        have pf7 := HC8.out.f 7 rfl
        have pf8 := HC8.out.f 8 rfl
        have K28 : ∀ w, Bt w As s.l → Calls Try.prog 28 #[.agg #[.slice As n cs, .int .i64 s.At, .int .i64 s.Nu, .int .i64 s.Bl, .int .i64 s.Se, .bool false, .int .i64 s.Gp, .int .i64 (now), .bool s.Fl], .int .i64 (now)] w (S3 s2 (gfr l (j + 1)) 0 w) := fun w h => by
          have := next28 As n cs s.At s.Nu s.Bl s.Se s.Wt s.Gp s.Dl s.Fl s.l (now) w (by rw [HSL.out]; exact HL.out) h hcs (ok_at HOK.out rfl (by rw [HSL.out]; exact HL.out)) (inB_mk (by omega) (by omega))
          rw [← SS.eta rfl, HNX.out, HW.out, HDL.out] at this
          exact this
        replace K28 := Lib.hid K28
        go_wp2_with fail
        refine (K28.out _ HST6.out.1.2.1).mono ?_
        rintro x w9 ⟨A9, n9, c9, B9, m9, d9, rfl, hn9, hc9, hbt9, hfr9, hm9, hd9, hbf9, hff9, hb9⟩
        obtain rfl : 8 = m9 := by rw [hm9]; exact (gfr_len HL1.out (j + 1)).symm
        obtain rfl : n = n9 := by rw [hn9, HS2L.out]; exact HL.out.symm
        have S9 := HST6.out.below hb9
        have hz9 := hb9.size
        have hPl9 : P < w6.heap.size := HST6.out.1.1.1
        have hRl9 : R < w6.heap.size := HST6.out.2.1.1.1
        have S10 := S9.setP s2 A9 c9 hbt9 (fun b o e => by have := hfr9 b o e; omega) B9 _ hbf9 (fun b o e => by have := hff9 b o e; omega)
        have HST9 := Lib.hid S9
        have HST10 := Lib.hid S10
        clear p0 pf0 p1 pf1 p2 pf2 p3 pf3 p4 pf4 p5 pf5 p6 pf6 p7 pf7 p8 pf8 S9 S10 hbt9 hfr9 hbf9 hff9 hb9 hn9 hm9 K28 HC8
        have p0 := HST9.out.1.1.c 0 rfl
        have p1 := HST9.out.1.1.c 1 rfl
        have p2 := HST9.out.1.1.c 2 rfl
        have p3 := HST9.out.1.1.c 3 rfl
        have p4 := HST9.out.1.1.c 4 rfl
        have p5 := HST9.out.1.1.c 5 rfl
        have p6 := HST9.out.1.1.c 6 rfl
        have p7 := HST9.out.1.1.c 7 rfl
        have p8 := HST9.out.1.1.c 8 rfl
        have pf0 := HST9.out.1.1.f 0 rfl
        have pf1 := HST9.out.1.1.f 1 rfl
        have pf2 := HST9.out.1.1.f 2 rfl
        have pf3 := HST9.out.1.1.f 3 rfl
        have pf4 := HST9.out.1.1.f 4 rfl
        have pf5 := HST9.out.1.1.f 5 rfl
        have pf6 := HST9.out.1.1.f 6 rfl
        have pf7 := HST9.out.1.1.f 7 rfl
        have pf8 := HST9.out.1.1.f 8 rfl
        go_upto_region 27 with fail
        obtain ⟨w10, hw10⟩ : ∃ wx, wx = (((((((((w9.setCell ⟨P, 0, none⟩ (.slice A9 n c9)).setCell ⟨P, 1, none⟩ (.int .i64 s2.At)).setCell ⟨P, 2, none⟩ (.int .i64 s2.Nu)).setCell ⟨P, 3, none⟩ (.int .i64 s2.Bl)).setCell ⟨P, 4, none⟩ (.int .i64 s2.Se)).setCell ⟨P, 5, none⟩ (.bool s2.Wt)).setCell ⟨P, 6, none⟩ (.int .i64 s2.Gp)).setCell ⟨P, 7, none⟩ (.int .i64 s2.Dl)).setCell ⟨P, 8, none⟩ (.bool s2.Fl)) := ⟨_, rfl⟩
        rw [← hw10] at HST10 ⊢
        clear hw10 p0 pf0 p1 pf1 p2 pf2 p3 pf3 p4 pf4 p5 pf5 p6 pf6 p7 pf7 p8 pf8 HST9 HST6
        by_cases hB0 : B = 0
        · have eB : decide (0 < B) = false := by simp; omega
          have HB0 := Lib.hid hB0
          clear hB0
          go_wp2_with fail
          go_roundg (q + 2 - (j + 1))
          case measure => omega
          case rel => exact ⟨j + 1, s2, r5, _, _, A9, c9, A5, n5, c5, B9, d9, by omega, HAR2.out, HS2L.out, rfl, rfl, hd9, by go_num, by go_num, hc9, HN5.out, hc5, HST10.out⟩
        · have eB : decide (0 < B) = true := by simp; omega
          have hrw := HAR2.out.row (by omega) (by omega)
          have eR : decide (B < row + 1) = false := by simp; omega
          go_wp2_with fail
          go_roundg (q + 2 - (j + 1))
          case measure => omega
          case rel => exact ⟨j + 1, s2, r5, _, _, A9, c9, A5, n5, c5, B9, d9, by omega, HAR2.out, HS2L.out, rfl, rfl, hd9, by go_num, by go_num, hc9, HN5.out, hc5, HST10.out⟩
      · obtain ⟨s1, s2, hct, hok1, hsl1, hw1, hdl1, hnx, hA2⟩ := hgo hw dl dl0 dl1
        have HCT := Lib.hid hct
        have HOKQ := Lib.hid hok1
        have HSLQ := Lib.hid hsl1
        have HWF := Lib.hid hw1
        have HDL := Lib.hid hdl1
        have HNX := Lib.hid hnx
        have HAR2 := Lib.hid hA2
        have HS2L := Lib.hid hA2.sl
        clear hst hgo hct hok1 hsl1 hw1 hdl1 hnx hA2
        obtain rfl : ans = pad [48, B, 0] := by rcases hwt with ⟨h, e⟩ | ⟨h, e⟩ <;> first | exact e | (rw [hw] at h; cases h)
        replace KR := Lib.hid KR
        have HW := Lib.hid hw
        clear hwt hw
        have q0 := HST.out.2.1.1.c 0 rfl
        have q1 := HST.out.2.1.1.c 1 rfl
        have q2 := HST.out.2.1.1.c 2 rfl
        have q3 := HST.out.2.1.1.c 3 rfl
        have q4 := HST.out.2.1.1.c 4 rfl
        have q5 := HST.out.2.1.1.c 5 rfl
        have q6 := HST.out.2.1.1.c 6 rfl
        have q7 := HST.out.2.1.1.c 7 rfl
        have q8 := HST.out.2.1.1.c 8 rfl
        have qf0 := HST.out.2.1.1.f 0 rfl
        have qf1 := HST.out.2.1.1.f 1 rfl
        have qf2 := HST.out.2.1.1.f 2 rfl
        have qf3 := HST.out.2.1.1.f 3 rfl
        have qf4 := HST.out.2.1.1.f 4 rfl
        have qf5 := HST.out.2.1.1.f 5 rfl
        have qf6 := HST.out.2.1.1.f 6 rfl
        have qf7 := HST.out.2.1.1.f 7 rfl
        have qf8 := HST.out.2.1.1.f 8 rfl
        go_wp2_with fail
        refine (KR.out _ HST.out.2.1.2.1 HST.out.2.2.1.1).mono ?_
        rintro x w5 ⟨A5, n5, c5, B5, m5, d5, rfl, hn5, hc5, hbt5, hfr5, hm5, hd5, hbf5, hff5, hb5⟩
        obtain rfl : m5 = 8 := by rw [hm5]; exact pad_len (by simp)
        clear hm5
        have S5 := HST.out.below hb5
        have hz5 := hb5.size
        have hPl : P < wr.heap.size := HST.out.1.1.1
        have hRl : R < wr.heap.size := HST.out.2.1.1.1
        have S6 := S5.setR r5 A5 n5 c5 hbt5 (fun b o e => by have := hfr5 b o e; omega)
        have T6 := hbf5.set9 (P := R) (fun b o e => by have := hff5 b o e; omega) (.slice A5 n5 c5) (.int .i64 r5.Le) (.int .i64 r5.Nu) (.int .i64 r5.Bl) (.int .i64 r5.Gt) (.bool r5.Bu) (.bool r5.Dn) (.int .i64 r5.Dl) (.bool r5.Fl)
        have hBN : ∀ b o, B5 = some ⟨b, o, none⟩ → b ≠ P ∧ b ≠ R := fun b o e => by have := hff5 b o e; omega
        have HST5 := Lib.hid S5
        have HST6 := Lib.hid S6
        have HT6 := Lib.hid T6
        have HBN := Lib.hid hBN
        have HN5 := Lib.hid hn5
        clear q0 qf0 q1 qf1 q2 qf2 q3 qf3 q4 qf4 q5 qf5 q6 qf6 q7 qf7 q8 qf8 S5 S6 T6 hBN hbt5 hfr5 hbf5 hff5 hb5 hn5 HST
        have q0 := HST5.out.2.1.1.c 0 rfl
        have q1 := HST5.out.2.1.1.c 1 rfl
        have q2 := HST5.out.2.1.1.c 2 rfl
        have q3 := HST5.out.2.1.1.c 3 rfl
        have q4 := HST5.out.2.1.1.c 4 rfl
        have q5 := HST5.out.2.1.1.c 5 rfl
        have q6 := HST5.out.2.1.1.c 6 rfl
        have q7 := HST5.out.2.1.1.c 7 rfl
        have q8 := HST5.out.2.1.1.c 8 rfl
        have qf0 := HST5.out.2.1.1.f 0 rfl
        have qf1 := HST5.out.2.1.1.f 1 rfl
        have qf2 := HST5.out.2.1.1.f 2 rfl
        have qf3 := HST5.out.2.1.1.f 3 rfl
        have qf4 := HST5.out.2.1.1.f 4 rfl
        have qf5 := HST5.out.2.1.1.f 5 rfl
        have qf6 := HST5.out.2.1.1.f 6 rfl
        have qf7 := HST5.out.2.1.1.f 7 rfl
        have qf8 := HST5.out.2.1.1.f 8 rfl
        go_upto_region 13 with fail
        obtain ⟨w6, hw6⟩ : ∃ wx, wx = (((((((((w5.setCell ⟨R, 0, none⟩ (.slice A5 n5 c5)).setCell ⟨R, 1, none⟩ (.int .i64 r5.Le)).setCell ⟨R, 2, none⟩ (.int .i64 r5.Nu)).setCell ⟨R, 3, none⟩ (.int .i64 r5.Bl)).setCell ⟨R, 4, none⟩ (.int .i64 r5.Gt)).setCell ⟨R, 5, none⟩ (.bool r5.Bu)).setCell ⟨R, 6, none⟩ (.bool r5.Dn)).setCell ⟨R, 7, none⟩ (.int .i64 r5.Dl)).setCell ⟨R, 8, none⟩ (.bool r5.Fl)) := ⟨_, rfl⟩
        rw [← hw6] at HST6 HT6 ⊢
        clear hw6 q0 qf0 q1 qf1 q2 qf2 q3 qf3 q4 qf4 q5 qf5 q6 qf6 q7 qf7 q8 qf8 HST5
        have q5 : w6.cell? ⟨R, 5, none⟩ = some (.bool true) := by have := HST6.out.2.1.1.c 5 rfl; rw [HBU.out] at this; exact this
        have q6 : w6.cell? ⟨R, 6, none⟩ = some (.bool false) := by have := HST6.out.2.1.1.c 6 rfl; rw [HDN.out] at this; exact this
        have hC6 : Cl P w6 [.slice As n cs, .int .i64 s.At, .int .i64 s.Nu, .int .i64 s.Bl, .int .i64 s.Se, .bool true, .int .i64 s.Gp, .int .i64 s.Dl, .bool s.Fl] := by have := HST6.out.1.1; rw [HW.out] at this; exact this
        have HC6 := Lib.hid hC6
        clear hC6
        have p0 := HC6.out.c 0 rfl
        have p1 := HC6.out.c 1 rfl
        have p2 := HC6.out.c 2 rfl
        have p3 := HC6.out.c 3 rfl
        have p4 := HC6.out.c 4 rfl
        have p5 := HC6.out.c 5 rfl
        have p6 := HC6.out.c 6 rfl
        have p7 := HC6.out.c 7 rfl
        have p8 := HC6.out.c 8 rfl
        have pf0 := HC6.out.f 0 rfl
        have pf1 := HC6.out.f 1 rfl
        have pf2 := HC6.out.f 2 rfl
        have pf3 := HC6.out.f 3 rfl
        have pf4 := HC6.out.f 4 rfl
        have pf5 := HC6.out.f 5 rfl
        have pf6 := HC6.out.f 6 rfl
        have pf7 := HC6.out.f 7 rfl
        have pf8 := HC6.out.f 8 rfl
        have K27 : ∀ w, Bt w As s.l → Bt w B5 (pad [48, B, 0]) → Calls Try.prog 27 #[.agg #[.slice As n cs, .int .i64 s.At, .int .i64 s.Nu, .int .i64 s.Bl, .int .i64 s.Se, .bool true, .int .i64 s.Gp, .int .i64 s.Dl, .bool s.Fl], .slice B5 8 d5, .int .i64 (now + dl)] w (S2 s1 0 w) := fun w h h2 => by
          have := ctl27 As n cs s.At s.Nu s.Bl s.Se s.Wt s.Gp s.Dl s.Fl s.l B5 8 d5 (pad [48, B, 0]) (now + dl) w (by rw [HSL.out]; exact HL.out) h hcs (pad_len (by simp)) h2 (byt_go b0 b1 (by omega) (by omega)) hd5 (ok_at HOK.out rfl (by rw [HSL.out]; exact HL.out)) (inB_mk (by omega) (by omega))
          rw [← SS.eta rfl, HCT.out, HW.out] at this
          exact this
        replace K27 := Lib.hid K27
        go_wp2_with fail
        refine (K27.out _ HST6.out.1.2.1 HT6.out).mono ?_
        rintro x w7 ⟨A7, n7, c7, rfl, hn7, hc7, hbt7, hfr7, hb7⟩
        obtain rfl : n = n7 := by rw [hn7, HSLQ.out]; exact HL.out.symm
        have S7 := HST6.out.below hb7
        have hz7 := hb7.size
        have hPl7 : P < w6.heap.size := HST6.out.1.1.1
        have hRl7 : R < w6.heap.size := HST6.out.2.1.1.1
        have S8 := S7.setP s1 A7 c7 hbt7 (fun b o e => by have := hfr7 b o e; omega) F _ S7.2.2.1.1 S7.2.2.1.2
        have HST7 := Lib.hid S7
        have HST8 := Lib.hid S8
        clear p0 pf0 p1 pf1 p2 pf2 p3 pf3 p4 pf4 p5 pf5 p6 pf6 p7 pf7 p8 pf8 q5 q6 S7 S8 hbt7 hfr7 hb7 hn7 K27 HC6 HST6 HT6
        have p0 := HST7.out.1.1.c 0 rfl
        have p1 := HST7.out.1.1.c 1 rfl
        have p2 := HST7.out.1.1.c 2 rfl
        have p3 := HST7.out.1.1.c 3 rfl
        have p4 := HST7.out.1.1.c 4 rfl
        have p5 := HST7.out.1.1.c 5 rfl
        have p6 := HST7.out.1.1.c 6 rfl
        have p7 := HST7.out.1.1.c 7 rfl
        have p8 := HST7.out.1.1.c 8 rfl
        have pf0 := HST7.out.1.1.f 0 rfl
        have pf1 := HST7.out.1.1.f 1 rfl
        have pf2 := HST7.out.1.1.f 2 rfl
        have pf3 := HST7.out.1.1.f 3 rfl
        have pf4 := HST7.out.1.1.f 4 rfl
        have pf5 := HST7.out.1.1.f 5 rfl
        have pf6 := HST7.out.1.1.f 6 rfl
        have pf7 := HST7.out.1.1.f 7 rfl
        have pf8 := HST7.out.1.1.f 8 rfl
        go_upto_region 23 with fail
        obtain ⟨w8, hw8⟩ : ∃ wx, wx = (((((((((w7.setCell ⟨P, 0, none⟩ (.slice A7 n c7)).setCell ⟨P, 1, none⟩ (.int .i64 s1.At)).setCell ⟨P, 2, none⟩ (.int .i64 s1.Nu)).setCell ⟨P, 3, none⟩ (.int .i64 s1.Bl)).setCell ⟨P, 4, none⟩ (.int .i64 s1.Se)).setCell ⟨P, 5, none⟩ (.bool s1.Wt)).setCell ⟨P, 6, none⟩ (.int .i64 s1.Gp)).setCell ⟨P, 7, none⟩ (.int .i64 s1.Dl)).setCell ⟨P, 8, none⟩ (.bool s1.Fl)) := ⟨_, rfl⟩
        rw [← hw8] at HST8 ⊢
        clear hw8 p0 pf0 p1 pf1 p2 pf2 p3 pf3 p4 pf4 p5 pf5 p6 pf6 p7 pf7 p8 pf8 HST7
        have hC8 : Cl P w8 [.slice A7 n c7, .int .i64 s1.At, .int .i64 s1.Nu, .int .i64 s1.Bl, .int .i64 s1.Se, .bool false, .int .i64 s1.Gp, .int .i64 (now + dl), .bool s1.Fl] := by have := HST8.out.1.1; rw [HWF.out, HDL.out] at this; exact this
        have HC8 := Lib.hid hC8
        clear hC8
        have p0 := HC8.out.c 0 rfl
        have p1 := HC8.out.c 1 rfl
        have p2 := HC8.out.c 2 rfl
        have p3 := HC8.out.c 3 rfl
        have p4 := HC8.out.c 4 rfl
        have p5 := HC8.out.c 5 rfl
        have p6 := HC8.out.c 6 rfl
        have p7 := HC8.out.c 7 rfl
        have p8 := HC8.out.c 8 rfl
        have pf0 := HC8.out.f 0 rfl
        have pf1 := HC8.out.f 1 rfl
        have pf2 := HC8.out.f 2 rfl
        have pf3 := HC8.out.f 3 rfl
        have pf4 := HC8.out.f 4 rfl
        have pf5 := HC8.out.f 5 rfl
        have pf6 := HC8.out.f 6 rfl
        have pf7 := HC8.out.f 7 rfl
        have pf8 := HC8.out.f 8 rfl
        have K28 : ∀ w, Bt w A7 s1.l → Calls Try.prog 28 #[.agg #[.slice A7 n c7, .int .i64 s1.At, .int .i64 s1.Nu, .int .i64 s1.Bl, .int .i64 s1.Se, .bool false, .int .i64 s1.Gp, .int .i64 (now + dl), .bool s1.Fl], .int .i64 (now + dl)] w (S3 s2 (gfr l (j + 1)) 0 w) := fun w h => by
          have := next28 A7 n c7 s1.At s1.Nu s1.Bl s1.Se s1.Wt s1.Gp s1.Dl s1.Fl s1.l (now + dl) w (by rw [HSLQ.out]; exact HL.out) h hc7 (ok_at HOKQ.out rfl (by rw [HSLQ.out]; exact HL.out)) (inB_mk (by omega) (by omega))
          rw [← SS.eta rfl, HNX.out, HWF.out, HDL.out] at this
          exact this
        replace K28 := Lib.hid K28
        go_wp2_with fail
        refine (K28.out _ HST8.out.1.2.1).mono ?_
        rintro x w9 ⟨A9, n9, c9, B9, m9, d9, rfl, hn9, hc9, hbt9, hfr9, hm9, hd9, hbf9, hff9, hb9⟩
        obtain rfl : 8 = m9 := by rw [hm9]; exact (gfr_len HL1.out (j + 1)).symm
        obtain rfl : n = n9 := by rw [hn9, HS2L.out]; exact HL.out.symm
        have S9 := HST8.out.below hb9
        have hz9 := hb9.size
        have hPl9 : P < w8.heap.size := HST8.out.1.1.1
        have hRl9 : R < w8.heap.size := HST8.out.2.1.1.1
        have S10 := S9.setP s2 A9 c9 hbt9 (fun b o e => by have := hfr9 b o e; omega) B9 _ hbf9 (fun b o e => by have := hff9 b o e; omega)
        have HST9 := Lib.hid S9
        have HST10 := Lib.hid S10
        clear p0 pf0 p1 pf1 p2 pf2 p3 pf3 p4 pf4 p5 pf5 p6 pf6 p7 pf7 p8 pf8 S9 S10 hbt9 hfr9 hbf9 hff9 hb9 hn9 hm9 K28 HC8
        have p0 := HST9.out.1.1.c 0 rfl
        have p1 := HST9.out.1.1.c 1 rfl
        have p2 := HST9.out.1.1.c 2 rfl
        have p3 := HST9.out.1.1.c 3 rfl
        have p4 := HST9.out.1.1.c 4 rfl
        have p5 := HST9.out.1.1.c 5 rfl
        have p6 := HST9.out.1.1.c 6 rfl
        have p7 := HST9.out.1.1.c 7 rfl
        have p8 := HST9.out.1.1.c 8 rfl
        have pf0 := HST9.out.1.1.f 0 rfl
        have pf1 := HST9.out.1.1.f 1 rfl
        have pf2 := HST9.out.1.1.f 2 rfl
        have pf3 := HST9.out.1.1.f 3 rfl
        have pf4 := HST9.out.1.1.f 4 rfl
        have pf5 := HST9.out.1.1.f 5 rfl
        have pf6 := HST9.out.1.1.f 6 rfl
        have pf7 := HST9.out.1.1.f 7 rfl
        have pf8 := HST9.out.1.1.f 8 rfl
        go_upto_region 27 with fail
        obtain ⟨w10, hw10⟩ : ∃ wx, wx = (((((((((w9.setCell ⟨P, 0, none⟩ (.slice A9 n c9)).setCell ⟨P, 1, none⟩ (.int .i64 s2.At)).setCell ⟨P, 2, none⟩ (.int .i64 s2.Nu)).setCell ⟨P, 3, none⟩ (.int .i64 s2.Bl)).setCell ⟨P, 4, none⟩ (.int .i64 s2.Se)).setCell ⟨P, 5, none⟩ (.bool s2.Wt)).setCell ⟨P, 6, none⟩ (.int .i64 s2.Gp)).setCell ⟨P, 7, none⟩ (.int .i64 s2.Dl)).setCell ⟨P, 8, none⟩ (.bool s2.Fl)) := ⟨_, rfl⟩
        rw [← hw10] at HST10 ⊢
        clear hw10 p0 pf0 p1 pf1 p2 pf2 p3 pf3 p4 pf4 p5 pf5 p6 pf6 p7 pf7 p8 pf8 HST9 HST8
        by_cases hB0 : B = 0
        · have eB : decide (0 < B) = false := by simp; omega
          have HB0 := Lib.hid hB0
          clear hB0
          go_wp2_with fail
          go_roundg (q + 2 - (j + 1))
          case measure => omega
          case rel => exact ⟨j + 1, s2, r5, _, _, A9, c9, A5, n5, c5, B9, d9, by omega, HAR2.out, HS2L.out, rfl, rfl, hd9, by go_num, by go_num, hc9, HN5.out, hc5, HST10.out⟩
        · have eB : decide (0 < B) = true := by simp; omega
          have hrw := HAR2.out.row (by omega) (by omega)
          have eR : decide (B < (1 : Int)) = false := by simp; omega
          go_wp2_with fail
          go_roundg (q + 2 - (j + 1))
          case measure => omega
          case rel => exact ⟨j + 1, s2, r5, _, _, A9, c9, A5, n5, c5, B9, d9, by omega, HAR2.out, HS2L.out, rfl, rfl, hd9, by go_num, by go_num, hc9, HN5.out, hc5, HST10.out⟩
theorem arrives7 (A : Option Addr) (n c : Nat) (l : List Int) (B dl : Int) (w : World) (hl : l.length = n) (hb : Bt w A l) (hB : Byt l) (hc : n ≤ c) (b0 : 0 ≤ B) (b1 : B ≤ 255) (dl0 : 0 ≤ dl) (dl1 : dl ≤ 65535) : Calls Try.prog 7 #[.slice A n c, .int .u8 B, .int .u16 dl] w fun x w' => x = .returned (.bool true) ∧ Below w.heap.size w w' := by
  cases hm : msgB n
  · exact arrives_small A n c l B dl w hl hb hB hc b0 b1 dl0 dl1 hm
  · exact arrives_ok A n c l B dl w hl hb hB hc b0 b1 dl0 dl1 hm
end Go.Proofs.Ytfjeediecmhedaa
