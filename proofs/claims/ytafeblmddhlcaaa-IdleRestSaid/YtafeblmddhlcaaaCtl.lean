/-
  The contracts of filter.Control and of its reference, and of the quotients that they go through, over wider numbers than IdleTargets needs. Conditions: gains and sums in their ranges, where the callers have looked at them.
-/
import Derived.Test.YtafeblmddhlcaaaBase
set_option linter.unusedVariables false
namespace Go.Proofs.Ytafeblmddhlcaaa
open Go.RowKit
theorem size32n (n : Int) (w : World) (h : n < 0) (h' : -9223372036854775808 ≤ n) : Calls Try.prog 32 #[.int .i64 n] w fun e w' => e = .returned (.int .u64 (-n)) ∧ w = w' := by
  have e : IntKind.u64.wrap (0 - IntKind.u64.wrap n) = -n := by rw [IntKind.wrap_u64, IntKind.wrap_u64]; omega
  have e' : IntKind.u64.wrap (- IntKind.u64.wrap n) = -n := by rw [IntKind.wrap_u64, IntKind.wrap_u64]; omega
  go_enter Try.func32, Try.ntmps32
  go_wp2
  go_ret
  exact ⟨rfl, rfl⟩
theorem times34w (n : Int) (w : World) (h : 0 ≤ n) (h' : n ≤ 1125899906842624) : Calls Try.prog 34 #[.int .u64 n, .int .u64 1] w fun e w' => e = .returned (.agg #[.int .u64 0, .int .u64 n]) ∧ Below w.heap.size w w' := by
  have e1 : bits .and .u64 n 4294967295 = n % 4294967296 := by
    have := bits_mask .u64 64 (by decide) (fun n h0 h1 => by rw [IntKind.wrap_u64]; omega) 32 (by decide) n h (by omega)
    rw [show ((2:Int)^32 - 1) = 4294967295 by decide] at this
    rw [this]; omega
  obtain ⟨l, hl⟩ : ∃ l, n % 4294967296 = l := ⟨_, rfl⟩
  obtain ⟨m, hm⟩ : ∃ m, n / 4294967296 = m := ⟨_, rfl⟩
  rw [hl] at e1
  have e2 : bits .and .u64 1 4294967295 = 1 := by decide
  have b1 : 0 ≤ l ∧ l < 4294967296 := by omega
  have b2 : 0 ≤ m ∧ m ≤ 262144 := by omega
  have e3 : bits .and .u64 m 4294967295 = m := u64_mask32 m b2.1 (by omega)
  have e5 : bits .and .u64 l 4294967295 = l := u64_mask32 l b1.1 (by omega)
  have e4 : l / 4294967296 = 0 := by omega
  have e6 : m / 4294967296 = 0 := by omega
  have e7 : m * 4294967296 + l = n := by omega
  have E7 := Lib.hid e7
  clear e7 hl
  go_enter Try.func34, Try.ntmps34
  go_wp2
  go_returns
  rw [← E7.out]
  refine ⟨rfl, ?_⟩
  go_grown
theorem over33w (n c : Int) (w : World) (h : 0 ≤ n) (h' : n ≤ 1125899906842624) (g : 1 ≤ c) (g' : c ≤ 1125899906842624) : Calls Try.prog 33 #[.agg #[.int .u64 0, .int .u64 n], .int .u64 c] w fun e w' => e = .returned (.tuple #[.int .u64 (n / c), .int .u64 (n % c), .bool true]) ∧ Below w.heap.size w w' := by
  go_enter Try.func33, Try.ntmps33
  go_wp2
  go_loop [7, 8, 9] (fun r q i => ∃ (k : Nat) (R Q : Int), k ≤ 64 ∧ i = .int .i64 ((k : Int) - 1) ∧ r = .int .u64 R ∧ q = .int .u64 Q ∧ Hid (R = n / 2 ^ k % c ∧ Q = n / 2 ^ k / c) ∧ 0 ≤ R ∧ R < c ∧ 0 ≤ Q ∧ Q ≤ n) (fun _ _ i => (intOf i + 1).toNat)
  case atStart =>
    have e : n / 2 ^ 64 = 0 := Int.ediv_eq_zero_of_lt h (by omega)
    exact ⟨64, 0, 0, by omega, rfl, rfl, rfl, by rw [e]; exact ⟨by simp, by simp⟩, by omega, by omega, by omega, by omega⟩
  case round =>
    obtain ⟨k, R, Q, hk, rfl, rfl, rfl, HE, r0, r1, q0, q1⟩ := hrel
    by_cases hk1 : 1 ≤ k
    · obtain ⟨m0, m1⟩ := pow_div_le n (k - 1) h
      have hb := u64_mask1 (n / 2 ^ (k - 1)) m0 (by omega)
      have st := div_step n c 0 k h g hk1
      rw [← HE.out.1, ← HE.out.2] at st
      obtain ⟨b, hbe⟩ : ∃ b, b = n / 2 ^ (k - 1) % 2 := ⟨_, rfl⟩
      rw [← hbe] at hb st
      have hb0 : 0 ≤ b ∧ b ≤ 1 := by omega
      have hq' : 0 ≤ n / 2 ^ (k-1) / c ∧ n / 2 ^ (k-1) / c ≤ n := ⟨Int.ediv_nonneg m0 (by omega), Int.le_trans (Int.ediv_le_self _ m0) m1⟩
      have ST := Lib.hid st
      have HQ := Lib.hid hq'
      clear st hq' hbe
      by_cases hc : c ≤ R * 2 + b
      · have S := ST.out.1 hc
        have hR : 0 ≤ R * 2 + b - c ∧ R * 2 + b - c < c := by omega
        have S := Lib.hid S
        go_wp2
        go_round
        case rel =>
          have := HQ.out
          rw [S.out.2] at this
          exact ⟨k - 1, R * 2 + b - c, Q * 2 + 1, by omega, by first | rfl | (congr 1; omega), rfl, rfl, ⟨S.out.1.symm, S.out.2.symm⟩, by omega, by omega, by omega, by omega⟩
        case measure => simp [intOf]; omega
      · have S := ST.out.2 (by omega)
        have S := Lib.hid S
        go_wp2
        go_round
        case rel =>
          have := HQ.out
          rw [S.out.2] at this
          exact ⟨k - 1, R * 2 + b, Q * 2, by omega, by first | rfl | (congr 1; omega), rfl, rfl, ⟨S.out.1.symm, S.out.2.symm⟩, by omega, by omega, by omega, by omega⟩
        case measure => simp [intOf]; omega
    · obtain rfl : k = 0 := by omega
      go_wp2
      go_ret3
      have e1 : R = n % c := by simpa using HE.out.1
      have e2 : Q = n / c := by simpa using HE.out.2
      refine ⟨by rw [e1, e2]; rfl, ?_⟩
      go_grown
/-- the quotient rounded down, of a negative number, out of its absolute value's -/
theorem floor_neg (a c : Int) (h : a < 0) (g : 1 ≤ c) : a / c = if 0 < -a % c then -(-a / c + 1) else -(-a / c) := by
  have h2 := Int.mul_ediv_add_emod (-a) c
  have h3 := Int.emod_nonneg (-a) (show c ≠ 0 by omega)
  have h4 := Int.emod_lt_of_pos (-a) (show 0 < c by omega)
  generalize -a / c = q at *
  generalize -a % c = r at *
  obtain rfl : a = -(c * q + r) := by omega
  split
  · have e : -(c * q + r) = (c - r) + c * (-(q + 1)) := by rw [Int.mul_neg, Int.mul_add, Int.mul_one]; omega
    rw [e, Int.add_mul_ediv_left _ _ (show c ≠ 0 by omega), Int.ediv_eq_zero_of_lt (by omega) (by omega)]; omega
  · have e : -(c * q + r) = 0 + c * (-q) := by rw [Int.mul_neg]; omega
    rw [e, Int.add_mul_ediv_left _ _ (show c ≠ 0 by omega), Int.ediv_eq_zero_of_lt (by omega) (by omega)]; omega
theorem muldiv31w (a c : Int) (w : World) (h : -1125899906842624 ≤ a) (h' : a ≤ 1125899906842624) (g : 1 ≤ c) (g' : c ≤ 1125899906842624) : Calls Try.prog 31 #[.int .i64 a, .int .i64 1, .int .i64 c, .int .i64 1] w fun e w' => e = .returned (.tuple #[.int .i64 (a / c), .int .i64 0]) ∧ Below w.heap.size w w' := by
  have dc : decide (c < 0) = false := by simp; omega
  have dc0 : (c == 0) = false := by simp; omega
  by_cases hn : a < 0
  · have q0 : 0 ≤ -a / c := Int.ediv_nonneg (by omega) (by omega)
    have q1 : -a / c ≤ -a := Int.ediv_le_self _ (by omega)
    have r0 : 0 ≤ -a % c := Int.emod_nonneg _ (by omega)
    have r1 : -a % c < c := Int.emod_lt_of_pos _ (by omega)
    have fn := floor_neg a c hn g
    have HO := fun w => over33w (-a) c w (by omega) (by omega) g g'
    obtain ⟨q, hq⟩ : ∃ q, q = -a / c := ⟨_, rfl⟩
    obtain ⟨r, hr⟩ : ∃ r, r = -a % c := ⟨_, rfl⟩
    rw [← hq, ← hr] at HO fn
    rw [fn]
    rw [← hq] at q0 q1
    rw [← hr] at r0 r1
    clear hq hr fn
    have HO := Lib.hid HO
    have da : decide (a < 0) = true := by simp; omega
    have da0 : (a != 0) = true := by simp; omega
    have dz : (a == 0) = false := by simp; omega
    have eq0 : IntKind.i64.wrap (IntKind.u64.wrap (0 - q)) = -q := by rw [IntKind.wrap_u64, IntKind.wrap_i64]; omega
    have eq1 : IntKind.i64.wrap (IntKind.u64.wrap (-q)) = -q := by rw [IntKind.wrap_u64, IntKind.wrap_i64]; omega
    have eq2 : IntKind.i64.wrap (IntKind.u64.wrap (0 - (q + 1))) = -(q + 1) := by rw [IntKind.wrap_u64, IntKind.wrap_i64]; omega
    have eq3 : IntKind.i64.wrap (IntKind.u64.wrap (-(q + 1))) = -(q + 1) := by rw [IntKind.wrap_u64, IntKind.wrap_i64]; omega
    by_cases hr : 0 < r
    · rw [if_pos hr]
      go_enter Try.func31, Try.ntmps31
      go_wp2_with (first
        | (go_at_call 32; first | (refine (size32 _ _ (by omega) (by omega)).mono ?_; rintro e w' ⟨rfl, rfl⟩) | (refine (size32n _ _ (by omega) (by omega)).mono ?_; rintro e w' ⟨rfl, rfl⟩))
        | (go_at_call 34; refine (times34w _ _ (by omega) (by omega)).mono ?_; rintro e w1 ⟨rfl, hb1⟩)
        | (go_at_call 33; refine (HO.out _).mono ?_; rintro e w2 ⟨rfl, hb2⟩))
      go_ret2
      exact ⟨ret_ii (by first | rfl | assumption) rfl, chain hb1 hb2⟩
    · rw [if_neg hr]
      go_enter Try.func31, Try.ntmps31
      go_wp2_with (first
        | (go_at_call 32; first | (refine (size32 _ _ (by omega) (by omega)).mono ?_; rintro e w' ⟨rfl, rfl⟩) | (refine (size32n _ _ (by omega) (by omega)).mono ?_; rintro e w' ⟨rfl, rfl⟩))
        | (go_at_call 34; refine (times34w _ _ (by omega) (by omega)).mono ?_; rintro e w1 ⟨rfl, hb1⟩)
        | (go_at_call 33; refine (HO.out _).mono ?_; rintro e w2 ⟨rfl, hb2⟩))
      go_ret2
      exact ⟨ret_ii (by first | rfl | assumption) rfl, chain hb1 hb2⟩
  · have q0 : 0 ≤ a / c := Int.ediv_nonneg (by omega) (by omega)
    have q1 : a / c ≤ a := Int.ediv_le_self _ (by omega)
    have r0 : 0 ≤ a % c := Int.emod_nonneg _ (by omega)
    have r1 : a % c < c := Int.emod_lt_of_pos _ (by omega)
    obtain ⟨q, hq⟩ : ∃ q, q = a / c := ⟨_, rfl⟩
    obtain ⟨r, hr⟩ : ∃ r, r = a % c := ⟨_, rfl⟩
    have HO := fun w => over33w a c w (by omega) (by omega) g g'
    rw [← hq, ← hr] at HO
    rw [← hq]
    rw [← hq] at q0 q1
    rw [← hr] at r0 r1
    clear hq hr
    have HO := Lib.hid HO
    have da : decide (a < 0) = false := by simp; omega
    by_cases ha : a = 0
    · subst ha
      go_enter Try.func31, Try.ntmps31
      go_wp2_with (first
        | (go_at_call 32; refine (size32 _ _ (by omega) (by omega)).mono ?_; rintro e w' ⟨rfl, rfl⟩)
        | (go_at_call 34; refine (times34w _ _ (by omega) (by omega)).mono ?_; rintro e w1 ⟨rfl, hb1⟩)
        | (go_at_call 33; refine (HO.out _).mono ?_; rintro e w2 ⟨rfl, hb2⟩))
      go_ret2
      exact ⟨rfl, chain hb1 hb2⟩
    · have ha'' : (a != 0) = true := by simp [ha]
      have ha' : (a == 0) = false := by simp [ha]
      go_enter Try.func31, Try.ntmps31
      go_wp2_with (first
        | (go_at_call 32; refine (size32 _ _ (by omega) (by omega)).mono ?_; rintro e w' ⟨rfl, rfl⟩)
        | (go_at_call 34; refine (times34w _ _ (by omega) (by omega)).mono ?_; rintro e w1 ⟨rfl, hb1⟩)
        | (go_at_call 33; refine (HO.out _).mono ?_; rintro e w2 ⟨rfl, hb2⟩))
      go_ret2
      exact ⟨rfl, chain hb1 hb2⟩
theorem div29w (a c : Int) (w : World) (h : -1125899906842624 ≤ a) (h' : a ≤ 1125899906842624) (g : 1 ≤ c) (g' : c ≤ 1125899906842624) : Calls Try.prog 29 #[.int .i64 a, .int .i64 c, .int .i64 1] w fun e w' => e = .returned (.tuple #[.int .i64 (a / c), .int .i64 0]) ∧ Below w.heap.size w w' := by
  have HO := Lib.hid (fun w => muldiv31w a c w h h' g g')
  go_enter Try.func29, Try.ntmps29
  go_wp2_with (go_at_call 31; refine (HO.out _).mono ?_; rintro e w2 ⟨rfl, hb2⟩)
  go_ret2
  exact ⟨rfl, hb2⟩
theorem floor23w (a c : Int) (w : World) (h : -1125899906842624 ≤ a) (h' : a ≤ 1125899906842624) (g : 1 ≤ c) (g' : c ≤ 1125899906842624) : Calls Try.prog 23 #[.int .i64 a, .int .i64 c] w fun e w' => e = .returned (.int .i64 (a / c)) ∧ Below w.heap.size w w' := by
  have HO := Lib.hid (fun w => div29w a c w h h' g g')
  go_enter Try.func23, Try.ntmps23
  go_wp2_with (go_at_call 29; refine (HO.out _).mono ?_; rintro e w2 ⟨rfl, hb2⟩)
  go_ret
  exact ⟨rfl, hb2⟩
end Go.Proofs.Ytafeblmddhlcaaa
