/-
  The contract of the reference's formed. No condition but the slice's shape.
  The contracts of the reference's comparisons at equal pages, and of great. No condition but the slices' shape.
  The contracts of functions on measures where there is none. No condition.
  The contract of bytes.Equal at equal bytes. No condition but the slices' shape.
-/
import Derived.Test.YtamajedopofcoaaZC
set_option linter.unusedVariables false
set_option linter.unusedSimpArgs false
namespace Go.Proofs.Ytamajedopofcoaa
open Go.RowKit
set_option maxRecDepth 100000 in
set_option maxHeartbeats 16000000 in
theorem form56_nil (A : Option Addr) (c : Nat) (w : World) : Calls Try.prog 56 #[.slice A 0 c] w fun r w' => r = .returned (.bool false) ∧ w = w' := by
  go_enter Try.func56, Try.ntmps56
  go_wp2
  go_ret
  exact ⟨rfl, rfl⟩
set_option maxRecDepth 100000 in
set_option maxHeartbeats 16000000 in
theorem form56_1t (b o nb c5 : Nat) (hn : nb = 3) (w : World) (h0 : w.cell? ⟨b, o, none⟩ = some (.int .u8 1)) (hp : 1 ≤ nb) : Calls Try.prog 56 #[.slice (some ⟨b, o, none⟩) nb c5] w fun r w' => r = .returned (.bool true) ∧ w = w' := by
  have hpos : (0 : Int) < (nb : Int) := by omega
  have z1 : decide ((nb : Int) = 0) = false := by simp; omega
  have z2 : ((nb : Int) == 0) = false := by simp; omega
  have d1 : decide ((nb : Int) = 3) = true := by simp; omega
  have d2 : ((nb : Int) == 3) = true := by simp; omega
  clear hn
  go_enter Try.func56, Try.ntmps56
  go_wp2
  go_ret
  exact ⟨rfl, rfl⟩
set_option maxRecDepth 100000 in
set_option maxHeartbeats 16000000 in
theorem form56_1f (b o nb c5 : Nat) (hn : nb ≠ 3) (w : World) (h0 : w.cell? ⟨b, o, none⟩ = some (.int .u8 1)) (hp : 1 ≤ nb) : Calls Try.prog 56 #[.slice (some ⟨b, o, none⟩) nb c5] w fun r w' => r = .returned (.bool false) ∧ w = w' := by
  have hpos : (0 : Int) < (nb : Int) := by omega
  have z1 : decide ((nb : Int) = 0) = false := by simp; omega
  have z2 : ((nb : Int) == 0) = false := by simp; omega
  have d1 : decide ((nb : Int) = 3) = false := by simp; omega
  have d2 : ((nb : Int) == 3) = false := by simp; omega
  clear hn
  go_enter Try.func56, Try.ntmps56
  go_wp2
  go_ret
  exact ⟨rfl, rfl⟩
set_option maxRecDepth 100000 in
set_option maxHeartbeats 16000000 in
theorem form56_2t (b o nb c5 : Nat) (hn : nb = 11) (w : World) (h0 : w.cell? ⟨b, o, none⟩ = some (.int .u8 2)) (hp : 1 ≤ nb) : Calls Try.prog 56 #[.slice (some ⟨b, o, none⟩) nb c5] w fun r w' => r = .returned (.bool true) ∧ w = w' := by
  have hpos : (0 : Int) < (nb : Int) := by omega
  have z1 : decide ((nb : Int) = 0) = false := by simp; omega
  have z2 : ((nb : Int) == 0) = false := by simp; omega
  have d1 : decide ((nb : Int) = 11) = true := by simp; omega
  have d2 : ((nb : Int) == 11) = true := by simp; omega
  clear hn
  go_enter Try.func56, Try.ntmps56
  go_wp2
  go_ret
  exact ⟨rfl, rfl⟩
set_option maxRecDepth 100000 in
set_option maxHeartbeats 16000000 in
theorem form56_2f (b o nb c5 : Nat) (hn : nb ≠ 11) (w : World) (h0 : w.cell? ⟨b, o, none⟩ = some (.int .u8 2)) (hp : 1 ≤ nb) : Calls Try.prog 56 #[.slice (some ⟨b, o, none⟩) nb c5] w fun r w' => r = .returned (.bool false) ∧ w = w' := by
  have hpos : (0 : Int) < (nb : Int) := by omega
  have z1 : decide ((nb : Int) = 0) = false := by simp; omega
  have z2 : ((nb : Int) == 0) = false := by simp; omega
  have d1 : decide ((nb : Int) = 11) = false := by simp; omega
  have d2 : ((nb : Int) == 11) = false := by simp; omega
  clear hn
  go_enter Try.func56, Try.ntmps56
  go_wp2
  go_ret
  exact ⟨rfl, rfl⟩
set_option maxRecDepth 100000 in
set_option maxHeartbeats 16000000 in
theorem form56_3t (b o nb c5 : Nat) (hn : nb = 2) (w : World) (h0 : w.cell? ⟨b, o, none⟩ = some (.int .u8 3)) (hp : 1 ≤ nb) : Calls Try.prog 56 #[.slice (some ⟨b, o, none⟩) nb c5] w fun r w' => r = .returned (.bool true) ∧ w = w' := by
  have hpos : (0 : Int) < (nb : Int) := by omega
  have z1 : decide ((nb : Int) = 0) = false := by simp; omega
  have z2 : ((nb : Int) == 0) = false := by simp; omega
  have d1 : decide ((nb : Int) = 2) = true := by simp; omega
  have d2 : ((nb : Int) == 2) = true := by simp; omega
  clear hn
  go_enter Try.func56, Try.ntmps56
  go_wp2
  go_ret
  exact ⟨rfl, rfl⟩
set_option maxRecDepth 100000 in
set_option maxHeartbeats 16000000 in
theorem form56_3f (b o nb c5 : Nat) (hn : nb ≠ 2) (w : World) (h0 : w.cell? ⟨b, o, none⟩ = some (.int .u8 3)) (hp : 1 ≤ nb) : Calls Try.prog 56 #[.slice (some ⟨b, o, none⟩) nb c5] w fun r w' => r = .returned (.bool false) ∧ w = w' := by
  have hpos : (0 : Int) < (nb : Int) := by omega
  have z1 : decide ((nb : Int) = 0) = false := by simp; omega
  have z2 : ((nb : Int) == 0) = false := by simp; omega
  have d1 : decide ((nb : Int) = 2) = false := by simp; omega
  have d2 : ((nb : Int) == 2) = false := by simp; omega
  clear hn
  go_enter Try.func56, Try.ntmps56
  go_wp2
  go_ret
  exact ⟨rfl, rfl⟩
set_option maxRecDepth 100000 in
set_option maxHeartbeats 16000000 in
theorem form56_5t (b o nb c5 : Nat) (hn : nb = 2) (w : World) (h0 : w.cell? ⟨b, o, none⟩ = some (.int .u8 5)) (hp : 1 ≤ nb) : Calls Try.prog 56 #[.slice (some ⟨b, o, none⟩) nb c5] w fun r w' => r = .returned (.bool true) ∧ w = w' := by
  have hpos : (0 : Int) < (nb : Int) := by omega
  have z1 : decide ((nb : Int) = 0) = false := by simp; omega
  have z2 : ((nb : Int) == 0) = false := by simp; omega
  have d1 : decide ((nb : Int) = 2) = true := by simp; omega
  have d2 : ((nb : Int) == 2) = true := by simp; omega
  clear hn
  go_enter Try.func56, Try.ntmps56
  go_wp2
  go_ret
  exact ⟨rfl, rfl⟩
set_option maxRecDepth 100000 in
set_option maxHeartbeats 16000000 in
theorem form56_5f (b o nb c5 : Nat) (hn : nb ≠ 2) (w : World) (h0 : w.cell? ⟨b, o, none⟩ = some (.int .u8 5)) (hp : 1 ≤ nb) : Calls Try.prog 56 #[.slice (some ⟨b, o, none⟩) nb c5] w fun r w' => r = .returned (.bool false) ∧ w = w' := by
  have hpos : (0 : Int) < (nb : Int) := by omega
  have z1 : decide ((nb : Int) = 0) = false := by simp; omega
  have z2 : ((nb : Int) == 0) = false := by simp; omega
  have d1 : decide ((nb : Int) = 2) = false := by simp; omega
  have d2 : ((nb : Int) == 2) = false := by simp; omega
  clear hn
  go_enter Try.func56, Try.ntmps56
  go_wp2
  go_ret
  exact ⟨rfl, rfl⟩
set_option maxRecDepth 100000 in
set_option maxHeartbeats 16000000 in
theorem form56_6t (b o nb c5 : Nat) (hn : nb = 2) (w : World) (h0 : w.cell? ⟨b, o, none⟩ = some (.int .u8 6)) (hp : 1 ≤ nb) : Calls Try.prog 56 #[.slice (some ⟨b, o, none⟩) nb c5] w fun r w' => r = .returned (.bool true) ∧ w = w' := by
  have hpos : (0 : Int) < (nb : Int) := by omega
  have z1 : decide ((nb : Int) = 0) = false := by simp; omega
  have z2 : ((nb : Int) == 0) = false := by simp; omega
  have d1 : decide ((nb : Int) = 2) = true := by simp; omega
  have d2 : ((nb : Int) == 2) = true := by simp; omega
  clear hn
  go_enter Try.func56, Try.ntmps56
  go_wp2
  go_ret
  exact ⟨rfl, rfl⟩
set_option maxRecDepth 100000 in
set_option maxHeartbeats 16000000 in
theorem form56_6f (b o nb c5 : Nat) (hn : nb ≠ 2) (w : World) (h0 : w.cell? ⟨b, o, none⟩ = some (.int .u8 6)) (hp : 1 ≤ nb) : Calls Try.prog 56 #[.slice (some ⟨b, o, none⟩) nb c5] w fun r w' => r = .returned (.bool false) ∧ w = w' := by
  have hpos : (0 : Int) < (nb : Int) := by omega
  have z1 : decide ((nb : Int) = 0) = false := by simp; omega
  have z2 : ((nb : Int) == 0) = false := by simp; omega
  have d1 : decide ((nb : Int) = 2) = false := by simp; omega
  have d2 : ((nb : Int) == 2) = false := by simp; omega
  clear hn
  go_enter Try.func56, Try.ntmps56
  go_wp2
  go_ret
  exact ⟨rfl, rfl⟩
set_option maxRecDepth 100000 in
set_option maxHeartbeats 16000000 in
theorem form56_4s (b o nb c5 : Nat) (hn : nb < 6) (w : World) (h0 : w.cell? ⟨b, o, none⟩ = some (.int .u8 4)) (hp : 1 ≤ nb) : Calls Try.prog 56 #[.slice (some ⟨b, o, none⟩) nb c5] w fun r w' => r = .returned (.bool false) ∧ w = w' := by
  have hpos : (0 : Int) < (nb : Int) := by omega
  have z1 : decide ((nb : Int) = 0) = false := by simp; omega
  have z2 : ((nb : Int) == 0) = false := by simp; omega
  have d1 : decide (6 ≤ (nb : Int)) = false := by simp; omega
  clear hn
  go_enter Try.func56, Try.ntmps56
  go_wp2
  go_ret
  exact ⟨rfl, rfl⟩
set_option maxRecDepth 100000 in
set_option maxHeartbeats 16000000 in
theorem form56_4t (b o nb c5 : Nat) (z : Nat) (hz : z ≤ 255) (hn : 6 ≤ nb) (he : nb = 6 + 2 * z) (w : World) (h3 : w.cell? ⟨b, o + 3, none⟩ = some (.int .u8 (z : Int))) (h0 : w.cell? ⟨b, o, none⟩ = some (.int .u8 4)) (hp : 1 ≤ nb) : Calls Try.prog 56 #[.slice (some ⟨b, o, none⟩) nb c5] w fun r w' => r = .returned (.bool true) ∧ w = w' := by
  have hpos : (0 : Int) < (nb : Int) := by omega
  have z1 : decide ((nb : Int) = 0) = false := by simp; omega
  have z2 : ((nb : Int) == 0) = false := by simp; omega
  have d1 : decide (6 ≤ (nb : Int)) = true := by simp; omega
  have d2 : decide ((nb : Int) = 6 + 2 * (z : Int)) = true := by simp; omega
  have d3 : ((nb : Int) == 6 + 2 * (z : Int)) = true := by simp; omega
  have d4 : (3 : Int) < (nb : Int) := by omega
  clear he
  go_enter Try.func56, Try.ntmps56
  go_wp2
  go_ret
  exact ⟨rfl, rfl⟩
set_option maxRecDepth 100000 in
set_option maxHeartbeats 16000000 in
theorem form56_4f (b o nb c5 : Nat) (z : Nat) (hz : z ≤ 255) (hn : 6 ≤ nb) (he : nb ≠ 6 + 2 * z) (w : World) (h3 : w.cell? ⟨b, o + 3, none⟩ = some (.int .u8 (z : Int))) (h0 : w.cell? ⟨b, o, none⟩ = some (.int .u8 4)) (hp : 1 ≤ nb) : Calls Try.prog 56 #[.slice (some ⟨b, o, none⟩) nb c5] w fun r w' => r = .returned (.bool false) ∧ w = w' := by
  have hpos : (0 : Int) < (nb : Int) := by omega
  have z1 : decide ((nb : Int) = 0) = false := by simp; omega
  have z2 : ((nb : Int) == 0) = false := by simp; omega
  have d1 : decide (6 ≤ (nb : Int)) = true := by simp; omega
  have d2 : decide ((nb : Int) = 6 + 2 * (z : Int)) = false := by simp; omega
  have d3 : ((nb : Int) == 6 + 2 * (z : Int)) = false := by simp; omega
  have d4 : (3 : Int) < (nb : Int) := by omega
  clear he
  go_enter Try.func56, Try.ntmps56
  go_wp2
  go_ret
  exact ⟨rfl, rfl⟩
set_option maxRecDepth 100000 in
set_option maxHeartbeats 16000000 in
theorem form56_o (b o nb c5 : Nat) (x0 : Int) (n1 : x0 ≠ 1) (n2 : x0 ≠ 2) (n3 : x0 ≠ 3) (n4 : x0 ≠ 4) (n5 : x0 ≠ 5) (n6 : x0 ≠ 6) (w : World) (h0 : w.cell? ⟨b, o, none⟩ = some (.int .u8 x0)) (hp : 1 ≤ nb) : Calls Try.prog 56 #[.slice (some ⟨b, o, none⟩) nb c5] w fun r w' => r = .returned (.bool false) ∧ w = w' := by
  have hpos : (0 : Int) < (nb : Int) := by omega
  have z1 : decide ((nb : Int) = 0) = false := by simp; omega
  have z2 : ((nb : Int) == 0) = false := by simp; omega
  have d1 : (x0 == 1) = false := by simp [n1]
  have e1 : decide (x0 = 1) = false := by simp [n1]
  have d2 : (x0 == 2) = false := by simp [n2]
  have e2 : decide (x0 = 2) = false := by simp [n2]
  have d3 : (x0 == 3) = false := by simp [n3]
  have e3 : decide (x0 = 3) = false := by simp [n3]
  have d4 : (x0 == 4) = false := by simp [n4]
  have e4 : decide (x0 = 4) = false := by simp [n4]
  have d5 : (x0 == 5) = false := by simp [n5]
  have e5 : decide (x0 = 5) = false := by simp [n5]
  have d6 : (x0 == 6) = false := by simp [n6]
  have e6 : decide (x0 = 6) = false := by simp [n6]
  clear n1 n2 n3 n4 n5 n6
  go_enter Try.func56, Try.ntmps56
  go_wp2
  go_ret
  exact ⟨rfl, rfl⟩
end Go.Proofs.Ytamajedopofcoaa
set_option linter.unusedVariables false
set_option linter.unusedSimpArgs false
namespace Go.Proofs.Ytamajedopofcoaa
open Go.RowKit
set_option maxRecDepth 100000 in
set_option maxHeartbeats 16000000 in
theorem ints31 (A B : Option Addr) (n c d : Nat) (l : List Int) (w : World) (hl : l.length = n) (ha : Ik .i64 w A l) (hb : Ik .i64 w B l) (hc : n ≤ c) (hd : n ≤ d) (hs : n ≤ 5000) : Calls Try.prog 31 #[.slice A n c, .slice B n d] w fun r w' => r = .returned (.bool true) ∧ Below w.heap.size w w' := by
  have HL := Lib.hid hl
  have HA := Lib.hid ha
  have HB := Lib.hid hb
  clear hl ha hb
  go_enter Try.func31, Try.ntmps31
  go_upto_region 4 with fail
  go_loopg [5] n (fun gk v wr => ∃ i : Nat, i ≤ n ∧ n - i ≤ gk ∧ v = .int .i64 i ∧ Below w.heap.size w wr)
  case atStart => exact ⟨0, by omega, by omega, rfl, Below.refl _ _⟩
  case round =>
    obtain ⟨i, hi, hgk, rfl, hg⟩ := hrel
    by_cases hlt : i < n
    · obtain ⟨b, o, rfl, hbl⟩ := HA.out.addr (by rw [HL.out]; omega)
      obtain ⟨b2, o2, rfl, hbl2⟩ := HB.out.addr (by rw [HL.out]; omega)
      have q1 := ((HA.out.below hg).at i (by rw [HL.out]; exact hlt)).1
      have q2 := ((HB.out.below hg).at i (by rw [HL.out]; exact hlt)).1
      obtain ⟨x, hx⟩ : ∃ x, x = l.getD i 0 := ⟨_, rfl⟩
      rw [← hx] at q1 q2
      have hz := hg.size
      clear hx
      go_upto_region 6 with fail
      go_region
      go_wp2_with fail
      go_roundg (n - (i + 1))
      case measure => omega
      case rel => exact ⟨i + 1, by omega, by omega, by go_num, hg.drew⟩
    · obtain rfl : i = n := by omega
      go_wp2
      go_ret
      exact ⟨rfl, hg⟩
set_option maxRecDepth 100000 in
set_option maxHeartbeats 16000000 in
theorem same10 (A B : Option Addr) (n c d : Nat) (A2 B2 : Option Addr) (n2 c2 d2 : Nat) (Ac Pe : Int) (A3 B3 : Option Addr) (m c3 d3 : Nat) (R W : List Int) (ch : List (Int × Int)) (w : World) (hl : R.length = n) (ha : Ik .i64 w A R) (hb : Ik .i64 w B R) (hc : n ≤ c) (hd : n ≤ d) (hl2 : W.length = n2) (ha2 : Ik .i64 w A2 W) (hb2 : Ik .i64 w B2 W) (hc2 : n2 ≤ c2) (hd2 : n2 ≤ d2) (hl3 : ch.length = m) (ha3 : Ik .i64 w A3 (flat ch)) (hb3 : Ik .i64 w B3 (flat ch)) (hc3 : m ≤ c3) (hd3 : m ≤ d3) (hs : n ≤ 5000) (hs2 : n2 ≤ 5000) (hs3 : m ≤ 5000) :
    Calls Try.prog 10 #[.agg #[.slice A n c, .slice A2 n2 c2, .int .i64 Ac, .int .i64 Pe, .slice A3 m c3], .agg #[.slice B n d, .slice B2 n2 d2, .int .i64 Ac, .int .i64 Pe, .slice B3 m d3]] w fun r w' => r = .returned (.bool true) ∧ Below w.heap.size w w' := by
  have K1 := fun w h h2 => ints31 A B n c d R w hl h h2 hc hd hs
  have K2 := fun w h h2 => ints31 A2 B2 n2 c2 d2 W w hl2 h h2 hc2 hd2 hs2
  replace K1 := Lib.hid K1
  replace K2 := Lib.hid K2
  have HL3 := Lib.hid hl3
  have G8 : Below w.heap.size w ((w.alloc (.cells #[.slice A n c, .slice A2 n2 c2, .int .i64 Ac, .int .i64 Pe, .slice A3 m c3] 25)).alloc (.cells #[.slice B n d, .slice B2 n2 d2, .int .i64 Ac, .int .i64 Pe, .slice B3 m d3] 25)) := by go_grown
  have HA1 := Lib.hid (ha.below G8)
  have HB1 := Lib.hid (hb.below G8)
  have HA2 := Lib.hid (ha2.below G8)
  have HB2 := Lib.hid (hb2.below G8)
  have HA3 := Lib.hid (ha3.below G8)
  have HB3 := Lib.hid (hb3.below G8)
  have HG8 := Lib.hid G8
  have HC8 := Lib.hid ((Cl.new (w := w) rfl [.slice A n c, .slice A2 n2 c2, .int .i64 Ac, .int .i64 Pe, .slice A3 m c3] 25).below ((Below.refl _ _).alloc (Nat.le_refl _) (.cells #[.slice B n d, .slice B2 n2 d2, .int .i64 Ac, .int .i64 Pe, .slice B3 m d3] 25)))
  have HD8 := Lib.hid (Cl.new (P := w.heap.size + 1) (w := w.alloc (.cells #[.slice A n c, .slice A2 n2 c2, .int .i64 Ac, .int .i64 Pe, .slice A3 m c3] 25)) (by simp) [.slice B n d, .slice B2 n2 d2, .int .i64 Ac, .int .i64 Pe, .slice B3 m d3] 25)
  clear hl hl2 hl3 ha hb ha2 hb2 ha3 hb3 G8
  go_enter Try.func10, Try.ntmps10
  go_wp2_with fail
  refine (K1.out _ HA1.out HB1.out).mono ?_
  rintro r w1 ⟨rfl, hb1⟩
  have HC1 := Lib.hid (HC8.out.below hb1)
  have HD1 := Lib.hid (HD8.out.below hb1)
  have HG1 := Lib.hid (chain HG8.out hb1)
  have HA21 := Lib.hid (HA2.out.below hb1)
  have HB21 := Lib.hid (HB2.out.below hb1)
  have HA31 := Lib.hid (HA3.out.below hb1)
  have HB31 := Lib.hid (HB3.out.below hb1)
  clear HC8 HD8 HG8 HA1 HB1 HA2 HB2 HA3 HB3 hb1
  have p0 := HC1.out.c 0 rfl
  have p1 := HC1.out.c 1 rfl
  have p2 := HC1.out.c 2 rfl
  have p3 := HC1.out.c 3 rfl
  have p4 := HC1.out.c 4 rfl
  have q0 := HD1.out.c 0 rfl
  have q1 := HD1.out.c 1 rfl
  have q2 := HD1.out.c 2 rfl
  have q3 := HD1.out.c 3 rfl
  have q4 := HD1.out.c 4 rfl
  have zp := HC1.out.1
  have zq := HD1.out.1
  go_wp2_with fail
  refine (K2.out _ HA21.out HB21.out).mono ?_
  rintro r w2 ⟨rfl, hb2⟩
  have HC2 := Lib.hid (HC1.out.below hb2)
  have HD2 := Lib.hid (HD1.out.below hb2)
  have HG2 := Lib.hid (chain HG1.out hb2)
  have HA32 := Lib.hid (HA31.out.below hb2)
  have HB32 := Lib.hid (HB31.out.below hb2)
  clear p0 p1 p2 p3 p4 q0 q1 q2 q3 q4 zp zq HC1 HD1 HG1 HA21 HB21 HA31 HB31 hb2
  have p0 := HC2.out.c 0 rfl
  have p1 := HC2.out.c 1 rfl
  have p2 := HC2.out.c 2 rfl
  have p3 := HC2.out.c 3 rfl
  have p4 := HC2.out.c 4 rfl
  have q0 := HD2.out.c 0 rfl
  have q1 := HD2.out.c 1 rfl
  have q2 := HD2.out.c 2 rfl
  have q3 := HD2.out.c 3 rfl
  have q4 := HD2.out.c 4 rfl
  have zp := HC2.out.1
  have zq := HD2.out.1
  go_upto_region 4 with fail
  clear p0 p1 p2 p3 p4 q0 q1 q2 q3 q4 zp zq
  go_loopg [5] m (fun gk v wr => ∃ i : Nat, i ≤ m ∧ m - i ≤ gk ∧ v = .int .i64 i ∧ Below w2.heap.size w2 wr)
  case atStart => exact ⟨0, by omega, by omega, rfl, Below.refl _ _⟩
  case round =>
    obtain ⟨i, hi, hgk, rfl, hg⟩ := hrel
    have HC := Lib.hid (HC2.out.below hg)
    have HD := Lib.hid (HD2.out.below hg)
    have p0 := HC.out.c 0 rfl
    have p1 := HC.out.c 1 rfl
    have p2 := HC.out.c 2 rfl
    have p3 := HC.out.c 3 rfl
    have p4 := HC.out.c 4 rfl
    have q0 := HD.out.c 0 rfl
    have q1 := HD.out.c 1 rfl
    have q2 := HD.out.c 2 rfl
    have q3 := HD.out.c 3 rfl
    have q4 := HD.out.c 4 rfl
    have zp := HC.out.1
    have zq := HD.out.1
    by_cases hlt : i < m
    · obtain ⟨b, o, rfl, hbl⟩ := HA32.out.addr (by rw [flat_len, HL3.out]; omega)
      obtain ⟨b2, o2, rfl, hbl2⟩ := HB32.out.addr (by rw [flat_len, HL3.out]; omega)
      have hip : i < ch.length := by rw [HL3.out]; exact hlt
      obtain ⟨p, hp⟩ : ∃ p, ch[i]? = some p := ⟨_, List.getElem?_eq_getElem hip⟩
      obtain ⟨u1, u2⟩ := flat_get ch i p hp
      obtain ⟨x, y⟩ := p
      obtain ⟨b', o', e', _, hcell⟩ := (HA32.out.below hg) (by rw [flat_len]; omega)
      injection e' with e'; injection e' with e1 e2'
      subst e1; subst e2'
      obtain ⟨b3', o3', e3', _, hcell2⟩ := (HB32.out.below hg) (by rw [flat_len]; omega)
      injection e3' with e3'; injection e3' with e4 e5
      subst e4; subst e5
      have s1 := hcell _ _ u1
      have s2 := hcell _ _ u2
      have s3 := hcell2 _ _ u1
      have s4 := hcell2 _ _ u2
      rw [← Nat.add_assoc] at s2 s4
      simp only at s1 s2 s3 s4
      clear hcell hcell2 u1 u2 hp hip
      go_upto_region 6 with fail
      go_region
      go_wp2_with fail
      go_roundg (m - (i + 1))
      case measure => omega
      case rel => exact ⟨i + 1, by omega, by omega, by go_num, hg.drew⟩
    · obtain rfl : i = m := by omega
      have HE := Lib.hid (chain HG2.out hg)
      go_wp2
      go_ret
      exact ⟨rfl, HE.out⟩
set_option maxRecDepth 100000 in
set_option maxHeartbeats 16000000 in
theorem great7 (A : Option Addr) (n c : Nat) (A2 : Option Addr) (n2 c2 : Nat) (Ac Pe : Int) (A3 : Option Addr) (m c3 : Nat) (R W : List Int) (ch : List (Int × Int)) (w : World) : Calls Try.prog 7 #[.agg #[.slice A n c, .slice A2 n2 c2, .int .i64 Ac, .int .i64 Pe, .slice A3 m c3]] w fun r w' => r = .returned (.bool (decide (40 < n) || decide (40 < n2) || decide (120 < m))) ∧ Below w.heap.size w w' := by
  go_enter Try.func7, Try.ntmps7
  go_wp2
  all_goals
    first
    | (exfalso; omega)
    | (go_ret; refine ⟨ret_bool ?_, by go_grown⟩; rw [Bool.eq_iff_iff]; simp <;> omega)
end Go.Proofs.Ytamajedopofcoaa
set_option linter.unusedVariables false
set_option linter.unusedSimpArgs false
namespace Go.Proofs.Ytamajedopofcoaa
open Go.RowKit
set_option maxRecDepth 100000 in
set_option maxHeartbeats 16000000 in
theorem clone48_nil (w : World) : Calls Try.prog 48 #[.slice none 0 0] w fun r w' => r = .returned (.slice none 0 0) ∧ Below w.heap.size w w' := by
  have q := fun (w : World) (a : Option Addr) (n c : Nat) => Lib.run_eql_slice_nil (P := Try.prog) w 45 66 a n c 0 0 Try.underlying45
  go_enter Try.func48, Try.ntmps48
  go_wp2
  go_ret
  exact ⟨rfl, Below.refl _ _⟩
set_option maxRecDepth 100000 in
set_option maxHeartbeats 16000000 in
theorem copy39_nil (w : World) : Calls Try.prog 39 #[.slice none 0 0] w fun r w' => r = .returned (.slice none 0 0) ∧ Below w.heap.size w w' := by
  go_enter Try.func39, Try.ntmps39
  go_wp2_with fail
  refine (clone48_nil _).mono ?_
  rintro r w1 ⟨rfl, hb1⟩
  go_wp2_with fail
  go_loopg [9] 0 (fun gk v wr => v = .int .i64 0 ∧ Below w.heap.size w wr)
  case atStart => exact ⟨rfl, hb1⟩
  case round =>
    obtain ⟨rfl, hg⟩ := hrel
    go_wp2
    go_ret
    exact ⟨rfl, hg⟩
set_option maxRecDepth 100000 in
set_option maxHeartbeats 16000000 in
theorem index47_nil (v : Value) (w : World) : Calls Try.prog 47 #[.slice none 0 0, v] w fun r w' => r = .returned (.int .i64 (-1)) ∧ Below w.heap.size w w' := by
  go_enter Try.func47, Try.ntmps47
  go_wp2_with fail
  go_loopg [8] 0 (fun gk u wr => u = .int .i64 0 ∧ Below w.heap.size w wr)
  case atStart => exact ⟨rfl, Below.refl _ _⟩
  case round =>
    obtain ⟨rfl, hg⟩ := hrel
    go_wp2
    go_ret
    exact ⟨rfl, hg⟩
set_option maxRecDepth 100000 in
set_option maxHeartbeats 16000000 in
theorem cont37_nil (v : Value) (w : World) : Calls Try.prog 37 #[.slice none 0 0, v] w fun r w' => r = .returned (.bool false) ∧ Below w.heap.size w w' := by
  have K := fun w => index47_nil v w
  replace K := Lib.hid K
  go_enter Try.func37, Try.ntmps37
  go_wp2_with fail
  refine (K.out _).mono ?_
  rintro r w1 ⟨rfl, hb1⟩
  go_wp2
  go_ret
  exact ⟨rfl, hb1⟩
set_option maxRecDepth 100000 in
set_option maxHeartbeats 16000000 in
theorem meas40_nil (w : World) : Calls Try.prog 40 #[.slice none 0 0] w fun r w' => r = .returned (.bool true) ∧ Below w.heap.size w w' := by
  go_enter Try.func40, Try.ntmps40
  go_wp2_with fail
  refine (cont37_nil _ _).mono ?_
  rintro r w1 ⟨rfl, hb1⟩
  go_wp2
  go_ret
  exact ⟨rfl, hb1⟩
end Go.Proofs.Ytamajedopofcoaa
set_option linter.unusedVariables false
set_option linter.unusedSimpArgs false
namespace Go.Proofs.Ytamajedopofcoaa
open Go.RowKit
theorem conv_u8 {w : World} {A : Option Addr} {l : List Int} (hb : Ik .u8 w A l) (n c : Nat) (hl : l.length = n) : (convert 46 9 (.slice A n c)).run Try.prog w = .ok (.string (strOfNums l)) w := by
  by_cases h0 : 0 < l.length
  · obtain ⟨b, o, rfl, _, hc⟩ := hb h0
    refine run_convert_bytes_arg w 46 5 Try.underlying46 Try.underlying5 b o n c l hl (fun i hi => hc i _ ?_) 9 Try.underlying9
    simp [List.getD, List.getElem?_eq_getElem (show i < l.length by omega)]
  · obtain rfl : l = [] := List.eq_nil_of_length_eq_zero (by omega)
    obtain rfl : n = 0 := by simpa using hl.symm
    cases A with
    | none => exact run_convert_bytes_nil w 46 5 Try.underlying46 Try.underlying5 0 c 9 Try.underlying9
    | some a =>
      rw [run_convert_bytes_string w 46 9 5 (some a) 0 c Try.underlying46 Try.underlying5 Try.underlying9]
      exact run_bytesToString w a 0 c [] (by rfl)
theorem equal25 (A B : Option Addr) (n c d : Nat) (l : List Int) (w : World) (hl : l.length = n) (ha : Ik .u8 w A l) (hb : Ik .u8 w B l) :
    Calls Try.prog 25 #[.slice A n c, .slice B n d] w fun r w' => r = .returned (.bool true) ∧ w = w' := by
  have k1 := conv_u8 ha n c hl
  have k2 := conv_u8 hb n d hl
  generalize strOfNums l = S at k1 k2
  clear hl ha hb
  go_enter Try.func25, Try.ntmps25
  go_wp2
  go_ret
  exact ⟨ret_bool (by simp), rfl⟩
end Go.Proofs.Ytamajedopofcoaa
