/-
  The core of the law ReadinessCodes. No condition but the slice's shape.
-/
import Derived.Test.YtomnhbbgndopnaaClear
set_option linter.unusedVariables false
namespace Go.Proofs.Ytomnhbbgndopnaa
open Go.RowKit
theorem below_drewN (w : World) (q : Nat) : Below w.heap.size w (w.drewN q) := ⟨rfl, rfl, rfl, Nat.le_refl _, fun _ _ => rfl⟩
set_option maxHeartbeats 1000000 in
theorem same14 (n c d : Nat) (A B : Option Addr) (D R : Nat → Bool) (N M : Nat → Int) (w : World) (ha : Rdys w A n D R N M) (hb : Rdys w B n D R N M) (hn : n ≤ 9223372036854775807) :
    Calls Try.prog 14 #[.slice A n c, .slice B n d] w fun r w' => r = .returned (.bool true) ∧ Below w.heap.size w w' := by
  have HA := Lib.hid ha
  have HB := Lib.hid hb
  clear ha hb
  go_enter Try.func14, Try.ntmps14
  go_wp2_with fail
  go_loopg [13] n (fun gk s13 wr => ∃ k q : Nat, k ≤ n ∧ n - k ≤ gk ∧ s13 = .int .i64 k ∧ wr = w.drewN q)
  case atStart => exact ⟨0, 0, Nat.zero_le _, by omega, rfl, rfl⟩
  case round =>
    obtain ⟨k, q, hk, hg, rfl, rfl⟩ := hrel
    by_cases hlt : k < n
    · obtain ⟨b1, o1, rfl, hb1, hc1⟩ := HA.out (by omega)
      obtain ⟨b2, o2, rfl, hb2, hc2⟩ := HB.out (by omega)
      obtain ⟨g1, g2, g3, g4⟩ := hc1 k hlt
      obtain ⟨g5, g6, g7, g8⟩ := hc2 k hlt
      clear hc1 hc2 HA HB
      generalize D k = v1 at g1 g5
      generalize R k = v2 at g2 g6
      generalize N k = v3 at g3 g7
      generalize M k = v4 at g4 g8
      go_wp2_with fail
      go_region
      go_wp2
      go_roundg (n - (k + 1))
      case measure => omega
      case rel => exact ⟨k + 1, q + 1, by omega, by omega, by go_num, rfl⟩
    · obtain rfl : k = n := by omega
      go_wp2
      go_ret
      exact ⟨rfl, below_drewN w q⟩
theorem cdV_none : ∀ n, cdV (fun _ => false) n = 2 ^ n - 1
  | 0 => by show (0 : Int) = 2 ^ 0 - 1; decide
  | n + 1 => by
    show cdV (fun _ => false) n + 2 ^ n = 2 ^ (n + 1) - 1
    rw [cdV_none n, Int.pow_succ]; omega
theorem allB_none {D R : Nat → Bool} {N M : Nat → Int} : ∀ n, allB D R N M n = true → allB (fun _ => false) (fun _ => false) N M n = true
  | 0, _ => rfl
  | n + 1, h => by
    have h' : (allB D R N M n && vld (D n) (R n) (N n) (M n)) = true := h
    simp only [Bool.and_eq_true] at h'
    show (allB (fun _ => false) (fun _ => false) N M n && vld false false (N n) (M n)) = true
    rw [allB_none n h'.1]
    have := h'.2
    simp only [vld, Bool.and_eq_true] at this ⊢
    simp [this.1]
theorem cd_none {D R : Nat → Bool} {N M : Nat → Int} {n : Nat} (h : cdE D R N M n = 0) : n ≤ 16 ∧ cdE (fun _ => false) (fun _ => false) N M n = 0 ∧ cdR (fun _ => false) (fun _ => false) N M n = 2 ^ n - 1 := by
  unfold cdE at h
  by_cases h16 : 16 < n
  · rw [if_pos h16] at h; cases h
  · rw [if_neg h16] at h
    have hb : allB D R N M n = true := by
      cases hh : allB D R N M n
      · rw [hh] at h; cases h
      · rfl
    have e : cdE (fun _ => false) (fun _ => false) N M n = 0 := by unfold cdE; rw [if_neg h16, allB_none n hb]; rfl
    exact ⟨by omega, e, by unfold cdR; rw [if_pos e, cdV_none]⟩
set_option maxHeartbeats 1000000 in
theorem codes5 (A : Option Addr) (len cap : Nat) (D R : Nat → Bool) (N M : Nat → Int) (w : World) (hs : Rdys w A len D R N M) (hl : len ≤ 9223372036854775807) :
    Calls Try.prog 5 #[.slice A len cap] w fun r w' => r = .returned (.bool true) ∧ Below w.heap.size w w' := by
  have HS := Lib.hid hs
  clear hs
  by_cases hbig : 100 < len
  · go_enter Try.func5, Try.ntmps5
    go_wp2_with fail
    refine (awake7 _).mono ?_
    rintro r w1 ⟨rfl, hb1⟩
    have hg1 := chain (w := w) (by go_grown) hb1
    clear hb1
    go_wp2
    go_ret
    exact ⟨rfl, hg1⟩
  · have C11 := Lib.hid (fun A cap w h => code11 A len cap D R N M w h (by omega))
    have C12 := Lib.hid (fun w h => code12 A len cap D R N M w h (by omega))
    have CD := @cd_none D R N M len
    have C11' := Lib.hid (fun A cap w h => code11 A len cap (fun _ => false) (fun _ => false) N M w h (by omega))
    generalize cdE D R N M len = e at C11 C12 CD
    generalize cdR D R N M len = x at C11 C12
    generalize cdE (fun _ => false) (fun _ => false) N M len = e' at C11' CD
    generalize cdR (fun _ => false) (fun _ => false) N M len = x' at C11' CD
    have HC := Lib.hid CD
    clear CD
    go_enter Try.func5, Try.ntmps5
    go_wp2_with fail
    refine (awake7 _).mono ?_
    rintro r w1 ⟨rfl, hb1⟩
    have hg1 := chain (w := w) (by go_grown) hb1
    clear hb1
    go_wp2_with fail
    refine (C11.out A cap _ (HS.out.below hg1)).mono ?_
    rintro r w2 ⟨rfl, hb2⟩
    have hg2 := chain hg1 hb2
    clear hb2 hg1
    go_wp2_with fail
    refine (C12.out _ (HS.out.below hg2)).mono ?_
    rintro r w3 ⟨rfl, hb3⟩
    have hg3 := chain hg2 hb3
    clear hb3 hg2
    go_wp2_with fail
    refine (clear13 A len cap D R N M _ (HS.out.below hg3) (by omega)).mono ?_
    rintro r w4 ⟨v, rfl, hown, hb4⟩
    have hg4 := chain hg3 hb4
    obtain ⟨A1, c1, rfl, hc1, hr1⟩ := own_rdys hown
    have HR := Lib.hid hr1
    clear hb4 hg3 hr1 hown
    go_wp2_with fail
    refine (clear15 A len cap D R N M _ (HS.out.below hg4) (by omega)).mono ?_
    rintro r w5 ⟨v, rfl, hown, hb5⟩
    have hg5 := chain hg4 hb5
    obtain ⟨A2, c2, rfl, hc2, hr2⟩ := own_rdys hown
    have HR1 := HR.out.below hb5
    have S14 := Lib.hid (same14 len c1 c2 A1 A2 _ _ N M w5 HR1 hr2 (by omega))
    have HR1 := Lib.hid HR1
    clear hb5 hg4 hr2 hown HR
    go_wp2_with fail
    refine S14.out.mono ?_
    rintro r w6 ⟨rfl, hb6⟩
    have hg6 := chain hg5 hb6
    have HR6 := Lib.hid (HR1.out.below hb6)
    clear hb6 hg5 S14 HR1
    go_wp2_with fail
    refine (C11'.out A1 c1 _ HR6.out).mono ?_
    rintro r w7 ⟨rfl, hb7⟩
    have hg7 := chain hg6 hb7
    clear hb7 hg6 HR6
    by_cases he : e = 0
    · obtain ⟨h16, rfl, hx⟩ := HC.out he
      subst he
      have hp := pow_bd len (by omega)
      obtain ⟨P, hP⟩ : ∃ P : Int, (2 : Int) ^ len = P := ⟨_, rfl⟩
      rw [hP] at hp hx
      subst hx
      clear HC
      go_wp2
      go_ret
      exact ⟨rfl, hg7⟩
    · have he' : (e != 0) = true := by simp [he]
      clear HC
      go_wp2
      go_ret
      exact ⟨rfl, hg7⟩
end Go.Proofs.Ytomnhbbgndopnaa
