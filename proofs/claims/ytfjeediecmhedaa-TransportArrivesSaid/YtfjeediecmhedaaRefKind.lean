/-
  The contract of the reference's Kind. No condition but the slice's shape and that its numbers are bytes.
-/
import Derived.Test.YtfjeediecmhedaaKind
set_option linter.unusedVariables false
set_option linter.unusedSimpArgs false
namespace Go.Proofs.Ytfjeediecmhedaa
open Go.RowKit
theorem kind45_len (A : Option Addr) (n c : Nat) (l : List Int) (w : World) (hl : l.length = n) (h8 : n ≠ 8) :
    Calls Try.prog 45 #[.slice A n c] w fun r w' => r = .returned (.int .i64 (kindM l)) ∧ w = w' := by
  have hk : kindM l = -1 := by unfold kindM; rw [if_neg (by omega)]
  rw [hk]
  have hb : ((n : Int) != 8) = true := by simp; omega
  go_enter Try.func45, Try.ntmps45
  go_wp2
  go_ret
  exact ⟨rfl, rfl⟩
set_option maxRecDepth 100000 in
set_option maxHeartbeats 4000000 in
theorem kind45_8 (b o c : Nat) (l : List Int) (w : World) (hl : l.length = 8) (hb : Bt w (some ⟨b, o, none⟩) l) (hB : Byt l) (hc : 8 ≤ c) :
    Calls Try.prog 45 #[.slice (some ⟨b, o, none⟩) 8 c] w fun r w' => r = .returned (.int .i64 (kindM l)) ∧ w = w' := by
  have c0 : w.cell? ⟨b, o, none⟩ = some (.int .u8 (l.getD 0 0)) := (hb.at 0 (by omega)).1
  have c1 := (hb.at 1 (by omega)).1
  have c2 := (hb.at 2 (by omega)).1
  obtain ⟨l0, l1⟩ := hB.at 0
  obtain ⟨m0, m1⟩ := hB.at 1
  obtain ⟨n0, n1⟩ := hB.at 2
  have HB := Lib.hid hb
  have HY := Lib.hid hB
  have HL := Lib.hid hl
  obtain ⟨k, hk⟩ : ∃ k, k = kindM l := ⟨_, rfl⟩
  rw [← hk]
  have HK := Lib.hid hk
  obtain ⟨f0, hf0⟩ : ∃ x, x = l.getD 0 0 := ⟨_, rfl⟩
  obtain ⟨f1, hf1⟩ : ∃ x, x = l.getD 1 0 := ⟨_, rfl⟩
  obtain ⟨f2, hf2⟩ : ∃ x, x = l.getD 2 0 := ⟨_, rfl⟩
  rw [← hf0] at c0 l0 l1
  rw [← hf1] at c1 m0 m1
  rw [← hf2] at c2 n0 n1
  have HF := Lib.hid (And.intro hf0 (And.intro hf1 hf2))
  obtain ⟨L, hL⟩ : ∃ L : Nat, f0 % 16 = L := ⟨(f0 % 16).toNat, by omega⟩
  have hL16 : L < 16 := by omega
  have HKL : Hid (k = (if f0 / 16 = 0 then (if 1 ≤ (L : Int) ∧ (L : Int) ≤ 7 ∧ zerB l (L + 1) = true then 0 else -1) else if f0 / 16 = 1 then (if 8 ≤ (L : Int) * 256 + f1 ∧ (L : Int) * 256 + f1 ≤ 1023 then 1 else -1) else if f0 / 16 = 2 then 2 else if f0 / 16 = 3 then (if (L : Int) ≤ 2 ∧ f2 ≤ 127 ∧ zerB l 3 = true then 3 else -1) else -1)) := by
    show k = _
    rw [hk]
    unfold kindM
    rw [if_pos hl, ← hf0, ← hf1, ← hf2, hL]
    simp only [Int.toNat_natCast]
  obtain ⟨N, hN⟩ : ∃ N, (L : Int) * 256 + f1 = N := ⟨_, rfl⟩
  rw [hN] at HKL
  have N0 : 0 ≤ N ∧ N ≤ 4095 := by omega
  have w1 : IntKind.i64.wrap ((L : Int) * 256) = (L : Int) * 256 := IntWalk.i64_in _ (by omega)
  clear hb hB hl hk hf0 hf1 hf2 HK
  obtain ⟨N0, N1⟩ := N0
  rcases (by omega : f0 / 16 = 0 ∨ f0 / 16 = 1 ∨ f0 / 16 = 2 ∨ f0 / 16 = 3 ∨ 3 < f0 / 16) with hq | hq | hq | hq | hq
  · rw [hq] at HKL
    rcases (by omega : L < 1 ∨ 7 < L ∨ (1 ≤ L ∧ L ≤ 7)) with g | g | ⟨g1, g2⟩
    · have g3 : (L : Int) < 1 := by omega
      go_enter Try.func45, Try.ntmps45
      go_wp2
      all_goals
        first
        | (exfalso; omega)
        | (go_ret; exact ⟨ret_int (by rw [HKL.out]; simp; omega), rfl⟩)
    · have g3 : ¬ (L : Int) < 1 := by omega
      have g4 : decide ((7 : Int) < (L : Int)) = true := by simp; omega
      go_enter Try.func45, Try.ntmps45
      go_wp2
      all_goals
        first
        | (exfalso; omega)
        | (go_ret; exact ⟨ret_int (by rw [HKL.out]; simp; omega), rfl⟩)
    · have g3 : (1 : Int) ≤ (L : Int) := by omega
      have g4 : decide ((7 : Int) < (L : Int)) = false := by simp; omega
      go_enter Try.func45, Try.ntmps45
      go_wp2_with fail
      all_goals first | (exfalso; omega) | skip
      go_loopg [7] 8 (fun gk i wr => ∃ j : Nat, L + 1 ≤ j ∧ j ≤ 8 ∧ 8 - j ≤ gk ∧ i = .int .i64 j ∧ Hid (∀ t, L + 1 ≤ t → t < j → l.getD t 0 = 0) ∧ w = wr)
      case atStart => exact ⟨L + 1, by omega, by omega, by omega, (by first | rfl | go_num), Lib.hid (fun t h1 h2 => by omega), rfl⟩
      case round =>
        obtain ⟨j, hj0, hj, hgk, rfl, HZ, rfl⟩ := hrel
        by_cases hlt : j < 8
        · obtain ⟨hcell, hbl⟩ := HB.out.at j (by rw [HL.out]; omega)
          have d0 : w.cell? ⟨b, o + j, none⟩ = some (.int .u8 (l.getD j 0)) := hcell
          obtain ⟨x0, x1⟩ := HY.out.at j
          obtain ⟨x, hx⟩ : ∃ x, x = l.getD j 0 := ⟨_, rfl⟩
          rw [← hx] at d0 x0 x1
          have j0 : (0 : Int) ≤ (j : Int) := by omega
          have j8 : (j : Int) < 8 := by omega
          by_cases hx0 : x = 0
          · have HX := Lib.hid hx
            clear hx hcell
            subst hx0
            go_wp2
            go_roundg (8 - (j + 1))
            case measure => omega
            case rel =>
              refine ⟨j + 1, by omega, by omega, by omega, by go_num, Lib.hid (fun t h1 h2 => ?_), rfl⟩
              by_cases e : t = j
              · subst e; exact HX.out.symm
              · exact HZ.out t h1 (by omega)
          · have hx1 : (x != 0) = true := by simp [hx0]
            have HX : Hid (zerB l (L + 1) = false) := Lib.hid (zerB_f (i := j) (by omega) (by rw [HL.out]; omega) (by rw [← hx]; exact hx0))
            clear hx hcell
            go_wp2
            go_ret
            exact ⟨ret_int (by rw [HKL.out, HX.out]; simp), rfl⟩
        · obtain rfl : j = 8 := by omega
          have HX : Hid (zerB l (L + 1) = true) := Lib.hid (zerB_t (fun t h1 h2 => HZ.out t h1 (by rw [HL.out] at h2; omega)))
          go_wp2
          go_ret
          exact ⟨ret_int (by rw [HKL.out, HX.out]; simp; omega), rfl⟩
  · rw [hq] at HKL
    rcases (by omega : N < 8 ∨ 1023 < N ∨ (8 ≤ N ∧ N ≤ 1023)) with g | g | ⟨g1, g2⟩
    · go_enter Try.func45, Try.ntmps45
      go_wp2
      all_goals
        first
        | (exfalso; omega)
        | (go_ret; exact ⟨ret_int (by rw [HKL.out]; simp; omega), rfl⟩)
      
    · have g4 : decide ((1023 : Int) < N) = true := by simp; omega
      go_enter Try.func45, Try.ntmps45
      go_wp2
      all_goals
        first
        | (exfalso; omega)
        | (go_ret; exact ⟨ret_int (by rw [HKL.out]; simp; omega), rfl⟩)
    · have g4 : decide ((1023 : Int) < N) = false := by simp; omega
      go_enter Try.func45, Try.ntmps45
      go_wp2
      all_goals
        first
        | (exfalso; omega)
        | (go_rounds 1; (go_ret; exact ⟨ret_int (by rw [HKL.out]; simp; omega), rfl⟩))
  · rw [hq] at HKL
    go_enter Try.func45, Try.ntmps45
    go_wp2
    all_goals
      first
      | (exfalso; omega)
      | (go_rounds 1; (go_ret; exact ⟨ret_int (by rw [HKL.out]; simp), rfl⟩))
  · rw [hq] at HKL
    rcases (by omega : 2 < L ∨ (L ≤ 2 ∧ 127 < f2) ∨ (L ≤ 2 ∧ f2 ≤ 127)) with g | ⟨g1, g2⟩ | ⟨g1, g2⟩
    · have g3 : (2 : Int) < (L : Int) := by omega
      go_enter Try.func45, Try.ntmps45
      go_wp2
      all_goals
        first
        | (exfalso; omega)
        | (go_ret; exact ⟨ret_int (by rw [HKL.out]; simp; omega), rfl⟩)
    · have g3 : ¬ (2 : Int) < (L : Int) := by omega
      have g4 : decide ((127 : Int) < f2) = true := by simp; omega
      go_enter Try.func45, Try.ntmps45
      go_wp2
      all_goals
        first
        | (exfalso; omega)
        | (go_ret; exact ⟨ret_int (by rw [HKL.out]; simp; omega), rfl⟩)
    · have g3 : ¬ (2 : Int) < (L : Int) := by omega
      have g4 : decide ((127 : Int) < f2) = false := by simp; omega
      go_enter Try.func45, Try.ntmps45
      go_wp2_with fail
      all_goals first | (exfalso; omega) | skip
      go_loopg [7] 8 (fun gk i wr => ∃ j : Nat, 3 ≤ j ∧ j ≤ 8 ∧ 8 - j ≤ gk ∧ i = .int .i64 j ∧ Hid (∀ t, 3 ≤ t → t < j → l.getD t 0 = 0) ∧ w = wr)
      case atStart => exact ⟨3, by omega, by omega, by omega, (by first | rfl | go_num), Lib.hid (fun t h1 h2 => by omega), rfl⟩
      case round =>
        obtain ⟨j, hj0, hj, hgk, rfl, HZ, rfl⟩ := hrel
        by_cases hlt : j < 8
        · obtain ⟨hcell, hbl⟩ := HB.out.at j (by rw [HL.out]; omega)
          have d0 : w.cell? ⟨b, o + j, none⟩ = some (.int .u8 (l.getD j 0)) := hcell
          obtain ⟨x0, x1⟩ := HY.out.at j
          obtain ⟨x, hx⟩ : ∃ x, x = l.getD j 0 := ⟨_, rfl⟩
          rw [← hx] at d0 x0 x1
          have j0 : (0 : Int) ≤ (j : Int) := by omega
          have j8 : (j : Int) < 8 := by omega
          by_cases hx0 : x = 0
          · have HX := Lib.hid hx
            clear hx hcell
            subst hx0
            go_wp2
            go_roundg (8 - (j + 1))
            case measure => omega
            case rel =>
              refine ⟨j + 1, by omega, by omega, by omega, by go_num, Lib.hid (fun t h1 h2 => ?_), rfl⟩
              by_cases e : t = j
              · subst e; exact HX.out.symm
              · exact HZ.out t h1 (by omega)
          · have hx1 : (x != 0) = true := by simp [hx0]
            have HX : Hid (zerB l (3) = false) := Lib.hid (zerB_f (i := j) (by omega) (by rw [HL.out]; omega) (by rw [← hx]; exact hx0))
            clear hx hcell
            go_wp2
            go_ret
            exact ⟨ret_int (by rw [HKL.out, HX.out]; simp), rfl⟩
        · obtain rfl : j = 8 := by omega
          have HX : Hid (zerB l (3) = true) := Lib.hid (zerB_t (fun t h1 h2 => HZ.out t h1 (by rw [HL.out] at h2; omega)))
          go_wp2
          go_ret
          exact ⟨ret_int (by rw [HKL.out, HX.out]; simp; omega), rfl⟩
  · have g1 : ¬ f0 / 16 = 0 := by omega
    have g2 : ¬ f0 / 16 = 1 := by omega
    have g3 : ¬ f0 / 16 = 2 := by omega
    have g4 : ¬ f0 / 16 = 3 := by omega
    obtain ⟨Q, hQ⟩ : ∃ Q, f0 / 16 = Q := ⟨_, rfl⟩
    rw [hQ] at HKL hq g1 g2 g3 g4
    have k1 : (Q == 0) = false := by simp [g1]
    have k2 : (Q == 1) = false := by simp [g2]
    have k3 : (Q == 2) = false := by simp [g3]
    have k4 : (Q == 3) = false := by simp [g4]
    go_enter Try.func45, Try.ntmps45
    go_wp2
    all_goals
      first
      | (exfalso; omega)
      | (go_ret; exact ⟨ret_int (by rw [HKL.out]; simp [g1, g2, g3, g4]), rfl⟩)
theorem kind45 (A : Option Addr) (n c : Nat) (l : List Int) (w : World) (hl : l.length = n) (hb : Bt w A l) (hB : Byt l) (hc : n ≤ c) :
    Calls Try.prog 45 #[.slice A n c] w fun r w' => r = .returned (.int .i64 (kindM l)) ∧ w = w' := by
  by_cases h8 : n = 8
  · subst h8
    obtain ⟨b, o, rfl, _⟩ := hb.addr (by omega)
    exact kind45_8 b o c l w hl hb hB hc
  · exact kind45_len A n c l w hl h8
end Go.Proofs.Ytfjeediecmhedaa
