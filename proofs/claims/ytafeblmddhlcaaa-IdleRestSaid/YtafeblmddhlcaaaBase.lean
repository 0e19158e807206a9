/-
  The contracts of the functions that the idle statements go through, as far as IdleTargets needs them: each answers as its plain Lean function says. Conditions: the numbers that a quotient or a product takes lie in the ranges that its callers keep.
-/
import Derived.Test.YtafeblmddhlcaaaFrame
import Derived.Handy
import Derived.WalkSpells
import Derived.WalkLawsBesides
import Derived.Lib.Hide
import Derived.Laws.BitsLemmas
import Derived.Laws.Bits64
set_option linter.unusedVariables false
namespace Go.Proofs.Ytafeblmddhlcaaa
open Go.RowKit
def spd (n : Int) : Bool := decide (0 ≤ n ∧ n ≤ 12000)
def tgt (c : Int) : Int := if c ≤ -20 then 1200 else if 70 ≤ c then 800 else 1200 - 400*(c+20)/90
theorem ret_bool {a b : Bool} (h : a = b) : Ending.returned (.bool a) = .returned (.bool b) := by rw [h]
theorem ret_int {k : IntKind} {a b : Int} (h : a = b) : Ending.returned (.int k a) = .returned (.int k b) := by rw [h]
theorem speedy20 (n : Int) (w : World) : Calls Try.prog 20 #[.int .i64 n] w fun e w' => e = .returned (.bool (spd n)) ∧ w = w' := by
  go_enter Try.func20, Try.ntmps20
  go_wp2
  all_goals (go_ret; exact ⟨ret_bool (by unfold spd; simp; try omega), rfl⟩)
theorem speedy22 (n : Int) (w : World) : Calls Try.prog 22 #[.int .i64 n] w fun e w' => e = .returned (.bool (spd n)) ∧ w = w' := by
  go_enter Try.func22, Try.ntmps22
  go_wp2
  all_goals (go_ret; exact ⟨ret_bool (by unfold spd; simp; try omega), rfl⟩)
theorem target11 (c : Int) (w : World) : Calls Try.prog 11 #[.int .i64 c] w fun e w' => e = .returned (.int .i64 (tgt c)) ∧ w = w' := by
  by_cases h1 : c ≤ -20
  · have e : tgt c = 1200 := by unfold tgt; rw [if_pos h1]
    rw [e]; clear e
    go_enter Try.func11, Try.ntmps11
    go_wp2
    go_ret
    exact ⟨rfl, rfl⟩
  · by_cases h2 : 70 ≤ c
    · have e : tgt c = 800 := by unfold tgt; rw [if_neg h1, if_pos h2]
      rw [e]; clear e
      go_enter Try.func11, Try.ntmps11
      go_wp2
      go_ret
      exact ⟨rfl, rfl⟩
    · have e : tgt c = 1200 - 400*(c+20)/90 := by unfold tgt; rw [if_neg h1, if_neg h2]
      rw [e]; clear e
      go_enter Try.func11, Try.ntmps11
      go_wp2
      go_ret
      exact ⟨rfl, rfl⟩
theorem u64_mask32 (x : Int) (h : 0 ≤ x) (h' : x < 4294967296) : bits .and .u64 x 4294967295 = x := by
  have := bits_mask .u64 64 (by decide) (fun n h0 h1 => by rw [IntKind.wrap_u64]; omega) 32 (by decide) x h (by omega)
  rw [show ((2:Int)^32 - 1) = 4294967295 by decide] at this
  rw [this]; omega
theorem size32 (n : Int) (w : World) (h : 0 ≤ n) (h' : n ≤ 9223372036854775807) : Calls Try.prog 32 #[.int .i64 n] w fun e w' => e = .returned (.int .u64 n) ∧ w = w' := by
  go_enter Try.func32, Try.ntmps32
  go_wp2
  all_goals (go_ret; exact ⟨rfl, rfl⟩)
theorem times34 (n : Int) (w : World) (h : 0 ≤ n) (h' : n ≤ 1000000) : Calls Try.prog 34 #[.int .u64 n, .int .u64 1] w fun e w' => e = .returned (.agg #[.int .u64 0, .int .u64 n]) ∧ Below w.heap.size w w' := by
  have e1 := u64_mask32 n h (by omega)
  have e2 : bits .and .u64 1 4294967295 = 1 := by decide
  have e3 : bits .and .u64 0 4294967295 = 0 := by decide
  have e4 : n / 4294967296 = 0 := by omega
  go_enter Try.func34, Try.ntmps34
  go_wp2
  go_returns
  refine ⟨rfl, ?_⟩
  go_grown
theorem div_step (n c b : Int) (k : Nat) (h : 0 ≤ n) (g : 1 ≤ c) (hk : 1 ≤ k) : 
    ((c ≤ n / 2 ^ k % c * 2 + n / 2 ^ (k-1) % 2 → n / 2 ^ (k-1) % c = n / 2 ^ k % c * 2 + n / 2 ^ (k-1) % 2 - c ∧ n / 2 ^ (k-1) / c = n / 2 ^ k / c * 2 + 1) ∧
    (n / 2 ^ k % c * 2 + n / 2 ^ (k-1) % 2 < c → n / 2 ^ (k-1) % c = n / 2 ^ k % c * 2 + n / 2 ^ (k-1) % 2 ∧ n / 2 ^ (k-1) / c = n / 2 ^ k / c * 2)) := by
  obtain ⟨j, rfl⟩ : ∃ j, k = j + 1 := ⟨k - 1, by omega⟩
  have e : n / 2 ^ (j + 1) = n / 2 ^ j / 2 := by
    rw [Int.pow_succ, Int.ediv_ediv_of_nonneg (Int.pow_nonneg (by omega))]
  simp only [Nat.add_sub_cancel]
  rw [e]
  have hm : 0 ≤ n / 2 ^ j := Int.ediv_nonneg h (Int.pow_nonneg (by omega))
  generalize n / 2 ^ j = m at hm
  clear e
  have h1 : m = 2 * (m / 2) + m % 2 := by omega
  have h2 := Int.mul_ediv_add_emod (m / 2) c
  have h3 := Int.emod_nonneg (m / 2) (show c ≠ 0 by omega)
  have h4 := Int.emod_lt_of_pos (m / 2) (show 0 < c by omega)
  generalize m / 2 / c = q at *
  generalize m / 2 % c = r at *
  generalize hx : m % 2 = x at *
  have hx0 : 0 ≤ x ∧ x ≤ 1 := by omega
  generalize m / 2 = y at *
  subst h1 h2
  constructor
  · intro hc
    have e : 2 * (c * q + r) + x = (r * 2 + x - c) + c * (q * 2 + 1) := by rw [Int.mul_add, Int.mul_add, ← Int.mul_assoc, ← Int.mul_assoc, Int.mul_comm 2 c]; rw [Int.mul_assoc c q 2, Int.mul_comm q 2, Int.mul_assoc]; omega
    rw [e]
    constructor
    · rw [Int.add_mul_emod_self_left]; exact Int.emod_eq_of_lt (by omega) (by omega)
    · rw [Int.add_mul_ediv_left _ _ (show c ≠ 0 by omega), Int.ediv_eq_zero_of_lt (by omega) (by omega)]; omega
  · intro hc
    have e : 2 * (c * q + r) + x = (r * 2 + x) + c * (q * 2) := by rw [Int.mul_add, ← Int.mul_assoc, Int.mul_comm 2 c]; rw [Int.mul_comm q 2, Int.mul_assoc]; omega
    rw [e]
    constructor
    · rw [Int.add_mul_emod_self_left]; exact Int.emod_eq_of_lt (by omega) (by omega)
    · rw [Int.add_mul_ediv_left _ _ (show c ≠ 0 by omega), Int.ediv_eq_zero_of_lt (by omega) (by omega)]; omega
theorem u64_mask1 (x : Int) (h : 0 ≤ x) (h' : x < 18446744073709551616) : bits .and .u64 x 1 = x % 2 := by
  have := bits_mask .u64 64 (by decide) (fun n h0 h1 => by rw [IntKind.wrap_u64]; omega) 1 (by decide) x h (by omega)
  simpa using this
theorem pow_div_le (n : Int) (k : Nat) (h : 0 ≤ n) : 0 ≤ n / 2 ^ k ∧ n / 2 ^ k ≤ n :=
  ⟨Int.ediv_nonneg h (Int.pow_nonneg (by omega)), Int.ediv_le_self _ h⟩
theorem over33 (n c : Int) (w : World) (h : 0 ≤ n) (h' : n ≤ 1000000) (g : 1 ≤ c) (g' : c ≤ 1000000) : Calls Try.prog 33 #[.agg #[.int .u64 0, .int .u64 n], .int .u64 c] w fun e w' => e = .returned (.tuple #[.int .u64 (n / c), .int .u64 (n % c), .bool true]) ∧ Below w.heap.size w w' := by
  go_enter Try.func33, Try.ntmps33
  go_wp2
  go_loop [7, 8, 9] (fun r q i => ∃ (k : Nat) (R Q : Int), k ≤ 64 ∧ i = .int .i64 ((k : Int) - 1) ∧ r = .int .u64 R ∧ q = .int .u64 Q ∧ Hid (R = n / 2 ^ k % c ∧ Q = n / 2 ^ k / c) ∧ 0 ≤ R ∧ R < c ∧ 0 ≤ Q ∧ Q ≤ n) (fun _ _ i => (intOf i + 1).toNat)
  case atStart =>
    have e : n / 2 ^ 64 = 0 := Int.ediv_eq_zero_of_lt h (by omega)
    exact ⟨64, 0, 0, by omega, rfl, rfl, rfl, by rw [e]; exact ⟨by simp, by simp⟩, by omega, by omega, by omega, by omega⟩
  case round =>
    obtain ⟨k, R, Q, hk, rfl, rfl, rfl, HE, r0, r1, q0, q1⟩ := hrel
    by_cases hk1 : 1 ≤ k
    · obtain ⟨m0, m1⟩ := pow_div_le n (k - 1) h
      have hb := u64_mask1 (n / 2 ^ (k - 1)) m0 (by omega)
      have st := div_step n c 0 k h g hk1
      rw [← HE.out.1, ← HE.out.2] at st
      obtain ⟨b, hbe⟩ : ∃ b, b = n / 2 ^ (k - 1) % 2 := ⟨_, rfl⟩
      rw [← hbe] at hb st
      have hb0 : 0 ≤ b ∧ b ≤ 1 := by omega
      have hq' : 0 ≤ n / 2 ^ (k-1) / c ∧ n / 2 ^ (k-1) / c ≤ n := ⟨Int.ediv_nonneg m0 (by omega), Int.le_trans (Int.ediv_le_self _ m0) m1⟩
      have ST := Lib.hid st
      have HQ := Lib.hid hq'
      clear st hq' hbe
      by_cases hc : c ≤ R * 2 + b
      · have S := ST.out.1 hc
        have hR : 0 ≤ R * 2 + b - c ∧ R * 2 + b - c < c := by omega
        have S := Lib.hid S
        go_wp2
        go_round
        case rel =>
          have := HQ.out
          rw [S.out.2] at this
          exact ⟨k - 1, R * 2 + b - c, Q * 2 + 1, by omega, by first | rfl | (congr 1; omega), rfl, rfl, ⟨S.out.1.symm, S.out.2.symm⟩, by omega, by omega, by omega, by omega⟩
        case measure => simp [intOf]; omega
      · have S := ST.out.2 (by omega)
        have S := Lib.hid S
        go_wp2
        go_round
        case rel =>
          have := HQ.out
          rw [S.out.2] at this
          exact ⟨k - 1, R * 2 + b, Q * 2, by omega, by first | rfl | (congr 1; omega), rfl, rfl, ⟨S.out.1.symm, S.out.2.symm⟩, by omega, by omega, by omega, by omega⟩
        case measure => simp [intOf]; omega
    · obtain rfl : k = 0 := by omega
      go_wp2
      go_ret3
      have e1 : R = n % c := by simpa using HE.out.1
      have e2 : Q = n / c := by simpa using HE.out.2
      refine ⟨by rw [e1, e2]; rfl, ?_⟩
      go_grown
theorem muldiv31 (a c : Int) (w : World) (h : 0 ≤ a) (h' : a ≤ 1000000) (g : 1 ≤ c) (g' : c ≤ 1000000) : Calls Try.prog 31 #[.int .i64 a, .int .i64 1, .int .i64 c, .int .i64 1] w fun e w' => e = .returned (.tuple #[.int .i64 (a / c), .int .i64 0]) ∧ Below w.heap.size w w' := by
  have q0 : 0 ≤ a / c := Int.ediv_nonneg h (by omega)
  have q1 : a / c ≤ a := Int.ediv_le_self _ h
  have r0 : 0 ≤ a % c := Int.emod_nonneg _ (by omega)
  have r1 : a % c < c := Int.emod_lt_of_pos _ (by omega)
  obtain ⟨q, hq⟩ : ∃ q, q = a / c := ⟨_, rfl⟩
  obtain ⟨r, hr⟩ : ∃ r, r = a % c := ⟨_, rfl⟩
  have HO := fun w => over33 a c w h h' g g'
  rw [← hq, ← hr] at HO
  rw [← hq]
  rw [← hq] at q0 q1
  rw [← hr] at r0 r1
  clear hq hr
  have HO := Lib.hid HO
  by_cases ha : a = 0
  · subst ha
    go_enter Try.func31, Try.ntmps31
    go_wp2_with (first
      | (go_at_call 32; refine (size32 _ _ (by omega) (by omega)).mono ?_; rintro e w' ⟨rfl, rfl⟩)
      | (go_at_call 34; refine (times34 _ _ (by omega) (by omega)).mono ?_; rintro e w1 ⟨rfl, hb1⟩)
      | (go_at_call 33; refine (HO.out _).mono ?_; rintro e w2 ⟨rfl, hb2⟩))
    go_ret2
    exact ⟨rfl, hb1.trans (hb2.mono hb1.size)⟩
  · have da : decide (a < 0) = false := by simp; omega
    have dc : decide (c < 0) = false := by simp; omega
    have ha' := beq_eq_false_iff_ne.2 ha
    have ha'' : (a != 0) = true := by simp [ha]
    go_enter Try.func31, Try.ntmps31
    go_wp2_with (first
      | (go_at_call 32; refine (size32 _ _ (by omega) (by omega)).mono ?_; rintro e w' ⟨rfl, rfl⟩)
      | (go_at_call 34; refine (times34 _ _ (by omega) (by omega)).mono ?_; rintro e w1 ⟨rfl, hb1⟩)
      | (go_at_call 33; refine (HO.out _).mono ?_; rintro e w2 ⟨rfl, hb2⟩))
    go_ret2
    exact ⟨rfl, hb1.trans (hb2.mono hb1.size)⟩
theorem div29 (a c : Int) (w : World) (h : 0 ≤ a) (h' : a ≤ 1000000) (g : 1 ≤ c) (g' : c ≤ 1000000) : Calls Try.prog 29 #[.int .i64 a, .int .i64 c, .int .i64 1] w fun e w' => e = .returned (.tuple #[.int .i64 (a / c), .int .i64 0]) ∧ Below w.heap.size w w' := by
  have HO := Lib.hid (fun w => muldiv31 a c w h h' g g')
  go_enter Try.func29, Try.ntmps29
  go_wp2_with (go_at_call 31; refine (HO.out _).mono ?_; rintro e w2 ⟨rfl, hb2⟩)
  go_ret2
  exact ⟨rfl, hb2⟩
theorem floor23 (a c : Int) (w : World) (h : 0 ≤ a) (h' : a ≤ 1000000) (g : 1 ≤ c) (g' : c ≤ 1000000) : Calls Try.prog 23 #[.int .i64 a, .int .i64 c] w fun e w' => e = .returned (.int .i64 (a / c)) ∧ Below w.heap.size w w' := by
  have HO := Lib.hid (fun w => div29 a c w h h' g g')
  go_enter Try.func23, Try.ntmps23
  go_wp2_with (go_at_call 29; refine (HO.out _).mono ?_; rintro e w2 ⟨rfl, hb2⟩)
  go_ret
  exact ⟨rfl, hb2⟩
theorem target12 (c : Int) (w : World) : Calls Try.prog 12 #[.int .i64 c] w fun e w' => e = .returned (.int .i64 (tgt c)) ∧ Below w.heap.size w w' := by
  by_cases h1 : c ≤ -20
  · have e : tgt c = 1200 := by unfold tgt; rw [if_pos h1]
    rw [e]; clear e
    go_enter Try.func12, Try.ntmps12
    go_wp2
    go_ret
    exact ⟨rfl, Below.refl _ _⟩
  · by_cases h2 : 70 ≤ c
    · have e : tgt c = 800 := by unfold tgt; rw [if_neg h1, if_pos h2]
      rw [e]; clear e
      go_enter Try.func12, Try.ntmps12
      go_wp2
      go_ret
      exact ⟨rfl, Below.refl _ _⟩
    · have e : tgt c = 1200 - 400*(c+20)/90 := by unfold tgt; rw [if_neg h1, if_neg h2]
      rw [e]; clear e
      go_enter Try.func12, Try.ntmps12
      go_wp2_with (go_at_call 23; refine (floor23 _ _ _ (by omega) (by omega) (by omega) (by omega)).mono ?_; rintro e w2 ⟨rfl, hb2⟩)
      go_ret
      exact ⟨rfl, hb2⟩
theorem tgt_bd (c : Int) : 800 ≤ tgt c ∧ tgt c ≤ 1200 := by
  unfold tgt; split
  · omega
  · split <;> omega
def nearB (s c : Int) : Bool := decide (s < tgt c + 300)
theorem near21 (s c : Int) (w : World) : Calls Try.prog 21 #[.int .i64 s, .int .i64 c] w fun e w' => e = .returned (.bool (nearB s c)) ∧ w = w' := by
  obtain ⟨t0, t1⟩ := tgt_bd c
  go_enter Try.func21, Try.ntmps21
  go_wp2_with (go_at_call 11; refine (target11 _ _).mono ?_; rintro e w2 ⟨rfl, rfl⟩)
  go_ret
  exact ⟨rfl, rfl⟩
def actB (p s c : Int) : Bool := decide (0 ≤ p ∧ p < 20) && spd s && nearB s c
theorem active13 (p s c : Int) (w : World) : Calls Try.prog 13 #[.int .i64 p, .int .i64 s, .int .i64 c] w fun e w' => e = .returned (.bool (actB p s c)) ∧ w = w' := by
  go_enter Try.func13, Try.ntmps13
  go_wp2_with (first
    | (go_at_call 20; refine (speedy20 _ _).mono ?_; rintro e w2 ⟨rfl, rfl⟩)
    | (go_at_call 21; refine (near21 _ _ _).mono ?_; rintro e w2 ⟨rfl, rfl⟩))
  all_goals (go_ret; refine ⟨ret_bool ?_, rfl⟩; unfold actB; simp [*]; try omega)
theorem active14 (p s c : Int) (w : World) : Calls Try.prog 14 #[.int .i64 p, .int .i64 s, .int .i64 c] w fun e w' => e = .returned (.bool (actB p s c)) ∧ Below w.heap.size w w' := by
  obtain ⟨t0, t1⟩ := tgt_bd c
  go_enter Try.func14, Try.ntmps14
  go_wp2_with (first
    | (go_at_call 22; refine (speedy22 _ _).mono ?_; rintro e w2 ⟨rfl, rfl⟩)
    | (go_at_call 12; refine (target12 _ _).mono ?_; rintro e w2 ⟨rfl, hb⟩))
  all_goals (go_ret; refine ⟨ret_bool ?_, by first | exact Below.refl _ _ | assumption⟩; unfold actB nearB; simp [*]; try omega)
theorem chain {w w1 w2 : World} (h : Below w.heap.size w w1) (k : Below w1.heap.size w1 w2) : Below w.heap.size w w2 := h.trans (k.mono h.size)
theorem ret_ii {k l : IntKind} {a b a' b' : Int} (h : a = a') (g : b = b') : Ending.returned (.tuple #[.int k a, .int l b]) = .returned (.tuple #[.int k a', .int l b']) := by rw [h, g]
def rsvBad (t s : Int) : Bool := decide (t < -5000) || decide (10000 < t) || !spd s
def rsvE (t s : Int) : Int := if rsvBad t s then 2 else 0
def rsv (t s c : Int) : Int := if rsvBad t s then 0 else if nearB s c then min 400 (max t (-t) / 10 + 50) else 0
theorem reserve9 (t s c : Int) (w : World) : Calls Try.prog 9 #[.int .i64 t, .int .i64 s, .int .i64 c] w fun e w' => e = .returned (.tuple #[.int .i64 (rsv t s c), .int .i64 (rsvE t s)]) ∧ w = w' := by
  go_enter Try.func9, Try.ntmps9
  go_wp2_with (first
    | (go_at_call 20; refine (speedy20 _ _).mono ?_; rintro e w2 ⟨rfl, rfl⟩)
    | (go_at_call 21; refine (near21 _ _ _).mono ?_; rintro e w2 ⟨rfl, rfl⟩))
  all_goals (go_ret2; refine ⟨ret_ii ?_ ?_, rfl⟩ <;> simp_all [rsv, rsvE, rsvBad] <;> omega)
theorem reserve10 (t s c : Int) (w : World) : Calls Try.prog 10 #[.int .i64 t, .int .i64 s, .int .i64 c] w fun e w' => e = .returned (.tuple #[.int .i64 (rsv t s c), .int .i64 (rsvE t s)]) ∧ Below w.heap.size w w' := by
  obtain ⟨t0, t1⟩ := tgt_bd c
  go_enter Try.func10, Try.ntmps10
  go_wp2_with (first
    | (go_at_call 22; refine (speedy22 _ _).mono ?_; rintro e w2 ⟨rfl, rfl⟩)
    | (go_at_call 12; refine (target12 _ _).mono ?_; rintro e w2 ⟨rfl, hb⟩))
  all_goals (go_ret2; refine ⟨ret_ii ?_ ?_, by first | exact Below.refl _ _ | assumption⟩ <;> simp_all [rsv, rsvE, rsvBad, nearB] <;> omega)
theorem awake8 (w : World) : Calls Try.prog 8 #[] w fun e w' => e = .returned (.bool true) ∧ w = w' := by
  have e1 : tgt (-40) = 1200 := by decide
  have e2 : tgt 25 = 1000 := by decide
  have e3 : tgt 90 = 800 := by decide
  have e4 : rsv 1000 700 90 = 150 := by decide
  have e5 : rsvE 1000 700 = 0 := by decide
  have e6 : actB 0 900 90 = true := by decide
  go_enter Try.func8, Try.ntmps8
  go_wp2_with (first
    | (go_at_call 9; refine (reserve9 _ _ _ _).mono ?_; rintro e w2 ⟨rfl, rfl⟩)
    | (go_at_call 11; refine (target11 _ _).mono ?_; rintro e w2 ⟨rfl, rfl⟩)
    | (go_at_call 13; refine (active13 _ _ _ _).mono ?_; rintro e w2 ⟨rfl, rfl⟩))
  go_ret
  exact ⟨rfl, rfl⟩
end Go.Proofs.Ytafeblmddhlcaaa
