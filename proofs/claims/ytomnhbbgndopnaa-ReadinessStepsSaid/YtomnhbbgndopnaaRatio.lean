/-
  The contracts of the reference's Cycle and of both Gcd and Ratio. No condition but those that each theorem names.
-/
import Derived.Test.YtomnhbbgndopnaaRefStep
import Derived.RegionTactic
import Derived.Deep.LoopGhost
import Derived.Deep.Draws
set_option linter.unusedVariables false
namespace Go.Proofs.Ytomnhbbgndopnaa
open Go.RowKit
set_option maxHeartbeats 2000000 in
theorem cycle17 (D R general : Bool) (N M : Int) (w : World) (D' R' : Bool) (N' M' e : Int)
    (h : (vld D R N M = false ∧ D' = false ∧ R' = false ∧ N' = 0 ∧ M' = 0 ∧ e = 1) ∨ (vld D R N M = true ∧ general = false ∧ D' = D ∧ R' = false ∧ N' = N ∧ M' = M ∧ e = 0) ∨
      (vld D R N M = true ∧ general = true ∧ D' = D ∧ R' = false ∧ N' = cycN N M ∧ M' = cycM N M ∧ e = 0)) :
    Calls Try.prog 17 #[.agg #[.bool D, .bool R, .int .i64 N, .int .i64 M], .bool general] w fun r w' => r = .returned (.tuple #[.agg #[.bool D', .bool R', .int .i64 N', .int .i64 M'], .int .i64 e]) ∧ Below w.heap.size w w' := by
  have HH := Lib.hid h
  clear h
  go_enter Try.func17, Try.ntmps17
  go_wp2_with fail
  refine (valid10 _ _ _ _ _).mono ?_
  rintro r w1 ⟨rfl, hb1⟩
  have hg1 := chain (w := w) (by go_grown) hb1
  obtain ⟨hc1, hf1⟩ := bcell hb1
  have sz1 := hb1.size
  simp at sz1
  have p0 : w1.cell? ⟨w.heap.size, 0, none⟩ = some (.bool D) := (hc1 _ _ (by first | omega | (simp; done) | (simp; omega))).trans (by go_cell)
  have e0 : w1.frozen? ⟨w.heap.size, 0, none⟩ = false := (hf1 _ _ (by first | omega | (simp; done) | (simp; omega))).trans (by simp [go_sem])
  have p1 : w1.cell? ⟨w.heap.size, 1, none⟩ = some (.bool R) := (hc1 _ _ (by first | omega | (simp; done) | (simp; omega))).trans (by go_cell)
  have e1 : w1.frozen? ⟨w.heap.size, 1, none⟩ = false := (hf1 _ _ (by first | omega | (simp; done) | (simp; omega))).trans (by simp [go_sem])
  have p2 : w1.cell? ⟨w.heap.size, 2, none⟩ = some (.int .i64 N) := (hc1 _ _ (by first | omega | (simp; done) | (simp; omega))).trans (by go_cell)
  have e2 : w1.frozen? ⟨w.heap.size, 2, none⟩ = false := (hf1 _ _ (by first | omega | (simp; done) | (simp; omega))).trans (by simp [go_sem])
  have p3 : w1.cell? ⟨w.heap.size, 3, none⟩ = some (.int .i64 M) := (hc1 _ _ (by first | omega | (simp; done) | (simp; omega))).trans (by go_cell)
  have e3 : w1.frozen? ⟨w.heap.size, 3, none⟩ = false := (hf1 _ _ (by first | omega | (simp; done) | (simp; omega))).trans (by simp [go_sem])
  have q0 : w1.cell? ⟨w.heap.size + 1, 0, none⟩ = some (.bool false) := (hc1 _ _ (by first | omega | (simp; done) | (simp; omega))).trans (by go_cell)
  have f0 : w1.frozen? ⟨w.heap.size + 1, 0, none⟩ = false := (hf1 _ _ (by first | omega | (simp; done) | (simp; omega))).trans (by simp [go_sem])
  have q1 : w1.cell? ⟨w.heap.size + 1, 1, none⟩ = some (.bool false) := (hc1 _ _ (by first | omega | (simp; done) | (simp; omega))).trans (by go_cell)
  have f1 : w1.frozen? ⟨w.heap.size + 1, 1, none⟩ = false := (hf1 _ _ (by first | omega | (simp; done) | (simp; omega))).trans (by simp [go_sem])
  have q2 : w1.cell? ⟨w.heap.size + 1, 2, none⟩ = some (.int .i64 0) := (hc1 _ _ (by first | omega | (simp; done) | (simp; omega))).trans (by go_cell)
  have f2 : w1.frozen? ⟨w.heap.size + 1, 2, none⟩ = false := (hf1 _ _ (by first | omega | (simp; done) | (simp; omega))).trans (by simp [go_sem])
  have q3 : w1.cell? ⟨w.heap.size + 1, 3, none⟩ = some (.int .i64 0) := (hc1 _ _ (by first | omega | (simp; done) | (simp; omega))).trans (by go_cell)
  have f3 : w1.frozen? ⟨w.heap.size + 1, 3, none⟩ = false := (hf1 _ _ (by first | omega | (simp; done) | (simp; omega))).trans (by simp [go_sem])
  have hz : w.heap.size + 1 < w1.heap.size := by omega
  have hz0 : w.heap.size < w1.heap.size := by omega
  clear hc1 hf1 hb1
  rcases HH.out with ⟨hv, rfl, rfl, rfl, rfl, rfl⟩ | ⟨hv, rfl, rfl, rfl, rfl, rfl, rfl⟩ | ⟨hv, rfl, rfl, rfl, hN, hM, rfl⟩
  case inr.inr =>
    clear HH
    obtain ⟨n0, n1, m0, m1⟩ := vld_bd hv
    rw [hv]
    clear hv
    by_cases h65 : M = 65535
    · subst h65
      obtain rfl : N' = N / 2 := by rw [hN]; rfl
      obtain rfl : M' = 32768 := by rw [hM]; rfl
      clear hN hM
      go_wp2_with fail
      refine (half22 _ _ _ _ _ (by omega) (by omega) (by omega) (by omega)).mono ?_
      rintro r w2 ⟨rfl, hb2⟩
      have hg2 := chain (w := w) (by go_grown) hb2
      obtain ⟨hc2, hf2⟩ := bcell hb2
      have sz2 := hb2.size
      simp at sz2
      have p0' : ∃ u, w2.cell? ⟨w.heap.size, 0, none⟩ = some u := ⟨_, (hc2 _ _ (by simp; omega)).trans (by go_cell)⟩
      replace e0 : w2.frozen? ⟨w.heap.size, 0, none⟩ = false := (hf2 _ _ (by simp; omega)).trans (by simp [go_sem, e0])
      replace q0 : w2.cell? ⟨w.heap.size + 1, 0, none⟩ = some (.bool false) := (hc2 _ _ (by simp; omega)).trans (by simp [go_sem, q0])
      replace f0 : w2.frozen? ⟨w.heap.size + 1, 0, none⟩ = false := (hf2 _ _ (by simp; omega)).trans (by simp [go_sem, f0])
      obtain ⟨u0, p0'⟩ := p0'
      have p1' : ∃ u, w2.cell? ⟨w.heap.size, 1, none⟩ = some u := ⟨_, (hc2 _ _ (by simp; omega)).trans (by go_cell)⟩
      replace e1 : w2.frozen? ⟨w.heap.size, 1, none⟩ = false := (hf2 _ _ (by simp; omega)).trans (by simp [go_sem, e1])
      replace q1 : w2.cell? ⟨w.heap.size + 1, 1, none⟩ = some (.bool false) := (hc2 _ _ (by simp; omega)).trans (by simp [go_sem, q1])
      replace f1 : w2.frozen? ⟨w.heap.size + 1, 1, none⟩ = false := (hf2 _ _ (by simp; omega)).trans (by simp [go_sem, f1])
      obtain ⟨u1, p1'⟩ := p1'
      have p2' : ∃ u, w2.cell? ⟨w.heap.size, 2, none⟩ = some u := ⟨_, (hc2 _ _ (by simp; omega)).trans (by go_cell)⟩
      replace e2 : w2.frozen? ⟨w.heap.size, 2, none⟩ = false := (hf2 _ _ (by simp; omega)).trans (by simp [go_sem, e2])
      replace q2 : w2.cell? ⟨w.heap.size + 1, 2, none⟩ = some (.int .i64 0) := (hc2 _ _ (by simp; omega)).trans (by simp [go_sem, q2])
      replace f2 : w2.frozen? ⟨w.heap.size + 1, 2, none⟩ = false := (hf2 _ _ (by simp; omega)).trans (by simp [go_sem, f2])
      obtain ⟨u2, p2'⟩ := p2'
      have p3' : ∃ u, w2.cell? ⟨w.heap.size, 3, none⟩ = some u := ⟨_, (hc2 _ _ (by simp; omega)).trans (by go_cell)⟩
      replace e3 : w2.frozen? ⟨w.heap.size, 3, none⟩ = false := (hf2 _ _ (by simp; omega)).trans (by simp [go_sem, e3])
      replace q3 : w2.cell? ⟨w.heap.size + 1, 3, none⟩ = some (.int .i64 0) := (hc2 _ _ (by simp; omega)).trans (by simp [go_sem, q3])
      replace f3 : w2.frozen? ⟨w.heap.size + 1, 3, none⟩ = false := (hf2 _ _ (by simp; omega)).trans (by simp [go_sem, f3])
      obtain ⟨u3, p3'⟩ := p3'
      replace hz : w.heap.size + 1 < w2.heap.size := by omega
      replace hz0 : w.heap.size < w2.heap.size := by omega
      clear hc2 hf2 hb2 p0 p1 p2 p3 hg1
      go_upto_region 7 with fail
      obtain ⟨w3, hw3⟩ : ∃ w3, w3 = ((((w2.setCell ⟨w.heap.size, 0, none⟩ (.bool D')).setCell ⟨w.heap.size, 1, none⟩ (.bool false)).setCell ⟨w.heap.size, 2, none⟩ (.int .i64 (N / 2))).setCell ⟨w.heap.size, 3, none⟩ (.int .i64 32767)) := ⟨_, rfl⟩
      have p0 : w3.cell? ⟨w.heap.size, 0, none⟩ = some (.bool D') := by rw [hw3]; simp [go_sem, p0', p1', p2', p3']
      replace e0 : w3.frozen? ⟨w.heap.size, 0, none⟩ = false := by rw [hw3]; simp [go_sem, e0]
      replace q0 : w3.cell? ⟨w.heap.size + 1, 0, none⟩ = some (.bool false) := by rw [hw3]; simp [go_sem, q0]
      replace f0 : w3.frozen? ⟨w.heap.size + 1, 0, none⟩ = false := by rw [hw3]; simp [go_sem, f0]
      have p1 : w3.cell? ⟨w.heap.size, 1, none⟩ = some (.bool false) := by rw [hw3]; simp [go_sem, p0', p1', p2', p3']
      replace e1 : w3.frozen? ⟨w.heap.size, 1, none⟩ = false := by rw [hw3]; simp [go_sem, e1]
      replace q1 : w3.cell? ⟨w.heap.size + 1, 1, none⟩ = some (.bool false) := by rw [hw3]; simp [go_sem, q1]
      replace f1 : w3.frozen? ⟨w.heap.size + 1, 1, none⟩ = false := by rw [hw3]; simp [go_sem, f1]
      have p2 : w3.cell? ⟨w.heap.size, 2, none⟩ = some (.int .i64 (N / 2)) := by rw [hw3]; simp [go_sem, p0', p1', p2', p3']
      replace e2 : w3.frozen? ⟨w.heap.size, 2, none⟩ = false := by rw [hw3]; simp [go_sem, e2]
      replace q2 : w3.cell? ⟨w.heap.size + 1, 2, none⟩ = some (.int .i64 0) := by rw [hw3]; simp [go_sem, q2]
      replace f2 : w3.frozen? ⟨w.heap.size + 1, 2, none⟩ = false := by rw [hw3]; simp [go_sem, f2]
      have p3 : w3.cell? ⟨w.heap.size, 3, none⟩ = some (.int .i64 32767) := by rw [hw3]; simp [go_sem, p0', p1', p2', p3']
      replace e3 : w3.frozen? ⟨w.heap.size, 3, none⟩ = false := by rw [hw3]; simp [go_sem, e3]
      replace q3 : w3.cell? ⟨w.heap.size + 1, 3, none⟩ = some (.int .i64 0) := by rw [hw3]; simp [go_sem, q3]
      replace f3 : w3.frozen? ⟨w.heap.size + 1, 3, none⟩ = false := by rw [hw3]; simp [go_sem, f3]
      have hg3 : Below w.heap.size w w3 := by rw [hw3]; go_grown
      have hz' : w.heap.size + 1 < w3.heap.size := by rw [hw3]; simpa using hz
      rw [← hw3]
      clear hw3 hg2 hz hz0 p0' p1' p2' p3'
      have hz := hz'
      have hz0 : w.heap.size < w3.heap.size := by omega
      clear hz'
      go_wp2_with fail
      refine bodyPost_ret (v := .tuple #[.agg #[.bool _, .bool _, .int .i64 _, .int .i64 _], .int .i64 _]) (by simp [results, Try.results17, go_sem, p0, p1, p2, p3, q0, q1, q2, q3, hz, hz0] <;> first | rfl | ((repeat' apply And.intro) <;> rfl)) rfl ⟨ret_r rfl rfl rfl rfl rfl, by go_grown⟩
    · obtain rfl : N' = N := by rw [hN]; unfold cycN; rw [if_neg h65]
      obtain rfl : M' = M + 1 := by rw [hM]; unfold cycM; rw [if_neg h65]
      clear hN hM
      have h65' : (M == 65535) = false := by simp [h65]
      go_wp2_with fail
      refine bodyPost_ret (v := .tuple #[.agg #[.bool _, .bool _, .int .i64 _, .int .i64 _], .int .i64 _]) (by simp [results, Try.results17, go_sem, p0, p1, p2, p3, q0, q1, q2, q3, hz, hz0] <;> first | rfl | ((repeat' apply And.intro) <;> rfl)) rfl ⟨ret_r rfl rfl rfl rfl rfl, by go_grown⟩
  all_goals
    clear HH
    rw [hv]
    clear hv
    go_wp2_with fail
    refine bodyPost_ret (v := .tuple #[.agg #[.bool _, .bool _, .int .i64 _, .int .i64 _], .int .i64 _]) (by simp [results, Try.results17, go_sem, p0, p1, p2, p3, q0, q1, q2, q3, hz, hz0] <;> first | rfl | ((repeat' apply And.intro) <;> rfl)) rfl ⟨ret_r rfl rfl rfl rfl rfl, by go_grown⟩
theorem mag25 (x : Int) (w : World) (h0 : 0 ≤ x) (h1 : x ≤ 65535) : Calls Try.prog 25 #[.int .i64 x] w fun r w' => r = .returned (.int .u64 x) ∧ w = w' := by
  go_enter Try.func25, Try.ntmps25
  go_wp2
  go_ret
  exact ⟨rfl, rfl⟩
theorem mag26 (x : Int) (w : World) (h0 : 0 ≤ x) (h1 : x ≤ 65535) : Calls Try.prog 26 #[.int .i64 x] w fun r w' => r = .returned (.int .u64 x) ∧ w = w' := by
  go_enter Try.func26, Try.ntmps26
  go_wp2
  go_ret
  exact ⟨rfl, rfl⟩
set_option maxRecDepth 100000 in
set_option maxHeartbeats 1000000 in
theorem gcd23 (a b : Nat) (w : World) (h0 : a ≤ 65535) (h1 : b ≤ 65535) : Calls Try.prog 23 #[.int .i64 a, .int .i64 b] w fun r w' => r = .returned (.int .i64 ((Nat.gcd a b : Nat) : Int)) ∧ Below w.heap.size w w' := by
  obtain ⟨G, hG⟩ : ∃ G, G = Nat.gcd a b := ⟨_, rfl⟩
  rw [← hG]
  have HG := Lib.hid hG
  clear hG
  go_enter Try.func23, Try.ntmps23
  go_wp2_with fail
  refine (mag25 _ _ (by omega) (by omega)).mono ?_
  rintro r w1 ⟨rfl, rfl⟩
  go_wp2_with fail
  refine (mag25 _ _ (by omega) (by omega)).mono ?_
  rintro r w1 ⟨rfl, rfl⟩
  go_wp2_with fail
  go_loopg [5, 6] b (fun gk v5 v6 wr => ∃ x y q : Nat, v5 = .int .u64 (x : Int) ∧ v6 = .int .u64 (y : Int) ∧ x ≤ 65535 ∧ y ≤ 65535 ∧ y ≤ gk ∧ Hid (Nat.gcd x y = G) ∧ wr = w.drewN q)
  case atStart => exact ⟨a, b, 0, rfl, rfl, h0, h1, Nat.le_refl _, HG.out.symm, rfl⟩
  case round =>
    obtain ⟨x, y, q, rfl, rfl, hx, hy, hgk, HQ, rfl⟩ := hrel
    by_cases hlt : 0 < y
    · have e : ((x : Int) % (y : Int)) = ((x % y : Nat) : Int) := by simp
      have hm := Nat.mod_lt x hlt
      have k0 : (0 : Int) ≤ (x : Int) := by omega
      have k1 : (1 : Int) ≤ (y : Int) := by omega
      have k2 : ((y : Int) == 0) = false := by simp; omega
      have E := Lib.hid e
      clear e
      go_wp2_with fail
      go_region
      go_wp2_with fail
      go_roundg (x % y)
      case measure => omega
      case rel =>
        refine ⟨y, x % y, q + 1, rfl, ?_, hy, by omega, Nat.le_refl _, ?_, rfl⟩
        · first | (rw [← E.out]; done) | (rw [← E.out, Int.tmod_eq_emod_of_nonneg k0]) | simp
        · show Nat.gcd y (x % y) = G
          rw [← HQ.out, Nat.gcd_comm y, ← Nat.gcd_rec, Nat.gcd_comm]
    · obtain rfl : y = 0 := by omega
      obtain rfl : x = G := by have := HQ.out; simpa using this
      have hbig : decide ((9223372036854775808 : Int) ≤ (x : Int)) = false := by rw [decide_eq_false_iff_not]; omega
      go_wp2
      go_ret
      exact ⟨rfl, ⟨rfl, rfl, rfl, Nat.le_refl _, fun _ _ => rfl⟩⟩
set_option maxRecDepth 100000 in
set_option maxHeartbeats 1000000 in
theorem gcd24 (a b : Nat) (w : World) (h0 : a ≤ 65535) (h1 : b ≤ 65535) : Calls Try.prog 24 #[.int .i64 a, .int .i64 b] w fun r w' => r = .returned (.int .i64 ((Nat.gcd a b : Nat) : Int)) ∧ Below w.heap.size w w' := by
  obtain ⟨G, hG⟩ : ∃ G, G = Nat.gcd a b := ⟨_, rfl⟩
  rw [← hG]
  have HG := Lib.hid hG
  clear hG
  go_enter Try.func24, Try.ntmps24
  go_wp2_with fail
  refine (mag26 _ _ (by omega) (by omega)).mono ?_
  rintro r w1 ⟨rfl, rfl⟩
  go_wp2_with fail
  refine (mag26 _ _ (by omega) (by omega)).mono ?_
  rintro r w1 ⟨rfl, rfl⟩
  go_wp2_with fail
  go_loopg [5, 6] b (fun gk v5 v6 wr => ∃ x y q : Nat, v5 = .int .u64 (x : Int) ∧ v6 = .int .u64 (y : Int) ∧ x ≤ 65535 ∧ y ≤ 65535 ∧ y ≤ gk ∧ Hid (Nat.gcd x y = G) ∧ wr = w.drewN q)
  case atStart => exact ⟨a, b, 0, rfl, rfl, h0, h1, Nat.le_refl _, HG.out.symm, rfl⟩
  case round =>
    obtain ⟨x, y, q, rfl, rfl, hx, hy, hgk, HQ, rfl⟩ := hrel
    by_cases hlt : 0 < y
    · have e : ((x : Int) % (y : Int)) = ((x % y : Nat) : Int) := by simp
      have hm := Nat.mod_lt x hlt
      have k0 : (0 : Int) ≤ (x : Int) := by omega
      have k1 : (1 : Int) ≤ (y : Int) := by omega
      have k2 : ((y : Int) == 0) = false := by simp; omega
      have E := Lib.hid e
      clear e
      go_wp2_with fail
      go_region
      go_wp2_with fail
      go_roundg (x % y)
      case measure => omega
      case rel =>
        refine ⟨y, x % y, q + 1, rfl, ?_, hy, by omega, Nat.le_refl _, ?_, rfl⟩
        · first | (rw [← E.out]; done) | (rw [← E.out, Int.tmod_eq_emod_of_nonneg k0]) | simp
        · show Nat.gcd y (x % y) = G
          rw [← HQ.out, Nat.gcd_comm y, ← Nat.gcd_rec, Nat.gcd_comm]
    · obtain rfl : y = 0 := by omega
      obtain rfl : x = G := by have := HQ.out; simpa using this
      have hbig : decide ((9223372036854775808 : Int) ≤ (x : Int)) = false := by rw [decide_eq_false_iff_not]; omega
      go_wp2
      go_ret
      exact ⟨rfl, ⟨rfl, rfl, rfl, Nat.le_refl _, fun _ _ => rfl⟩⟩
theorem wq (a G : Nat) (h : a ≤ 65535) : wrap64 ((a : Int) / (G : Int)) = (a : Int) / (G : Int) := by
  have h1 : (a : Int) / (G : Int) = ((a / G : Nat) : Int) := by simp
  have h2 := Nat.div_le_self a G
  rw [h1]
  generalize a / G = q at h2 ⊢
  exact IntWalk.wrap64_in _ (by omega)
def rtX (D R : Bool) (N M : Int) : Int := if vld D R N M then (if M = 0 then 0 else N / (Nat.gcd N.toNat M.toNat : Nat)) else 0
def rtY (D R : Bool) (N M : Int) : Int := if vld D R N M then (if M = 0 then 0 else M / (Nat.gcd N.toNat M.toNat : Nat)) else 0
def rtE (D R : Bool) (N M : Int) : Int := if vld D R N M then (if M = 0 then 10 else 0) else 1
set_option maxHeartbeats 2000000 in
theorem ratio18 (D R : Bool) (N M : Int) (w : World) : Calls Try.prog 18 #[.agg #[.bool D, .bool R, .int .i64 N, .int .i64 M]] w fun r w' => r = .returned (.tuple #[.agg #[.int .i64 (rtX D R N M), .int .i64 (rtY D R N M)], .int .i64 (rtE D R N M)]) ∧ Below w.heap.size w w' := by
  have key : (vld D R N M = false ∧ rtX D R N M = 0 ∧ rtY D R N M = 0 ∧ rtE D R N M = 1) ∨ (vld D R N M = true ∧ M = 0 ∧ rtX D R N M = 0 ∧ rtY D R N M = 0 ∧ rtE D R N M = 10) ∨
      (vld D R N M = true ∧ M ≠ 0 ∧ rtX D R N M = N / (Nat.gcd N.toNat M.toNat : Nat) ∧ rtY D R N M = M / (Nat.gcd N.toNat M.toNat : Nat) ∧ rtE D R N M = 0) := by
    unfold rtX rtY rtE
    cases vld D R N M
    · simp
    · by_cases h : M = 0 <;> simp [h]
  generalize rtX D R N M = X at key ⊢
  generalize rtY D R N M = Y at key ⊢
  generalize rtE D R N M = E at key ⊢
  have HK := Lib.hid key
  clear key
  go_enter Try.func18, Try.ntmps18
  go_wp2_with fail
  refine (valid20 _ _ _ _ _).mono ?_
  rintro r w1 ⟨rfl, hb1⟩
  have hg1 := chain (w := w) (by go_grown) hb1
  obtain ⟨hc1, hf1⟩ := bcell hb1
  have sz1 := hb1.size
  simp at sz1
  have p0 : w1.cell? ⟨w.heap.size, 0, none⟩ = some (.bool D) := (hc1 _ _ (by first | omega | (simp; done) | (simp; omega))).trans (by go_cell)
  have e0 : w1.frozen? ⟨w.heap.size, 0, none⟩ = false := (hf1 _ _ (by first | omega | (simp; done) | (simp; omega))).trans (by simp [go_sem])
  have p1 : w1.cell? ⟨w.heap.size, 1, none⟩ = some (.bool R) := (hc1 _ _ (by first | omega | (simp; done) | (simp; omega))).trans (by go_cell)
  have e1 : w1.frozen? ⟨w.heap.size, 1, none⟩ = false := (hf1 _ _ (by first | omega | (simp; done) | (simp; omega))).trans (by simp [go_sem])
  have p2 : w1.cell? ⟨w.heap.size, 2, none⟩ = some (.int .i64 N) := (hc1 _ _ (by first | omega | (simp; done) | (simp; omega))).trans (by go_cell)
  have e2 : w1.frozen? ⟨w.heap.size, 2, none⟩ = false := (hf1 _ _ (by first | omega | (simp; done) | (simp; omega))).trans (by simp [go_sem])
  have p3 : w1.cell? ⟨w.heap.size, 3, none⟩ = some (.int .i64 M) := (hc1 _ _ (by first | omega | (simp; done) | (simp; omega))).trans (by go_cell)
  have e3 : w1.frozen? ⟨w.heap.size, 3, none⟩ = false := (hf1 _ _ (by first | omega | (simp; done) | (simp; omega))).trans (by simp [go_sem])
  have q0 : w1.cell? ⟨w.heap.size + 1, 0, none⟩ = some (.int .i64 0) := (hc1 _ _ (by first | omega | (simp; done) | (simp; omega))).trans (by go_cell)
  have f0 : w1.frozen? ⟨w.heap.size + 1, 0, none⟩ = false := (hf1 _ _ (by first | omega | (simp; done) | (simp; omega))).trans (by simp [go_sem])
  have q1 : w1.cell? ⟨w.heap.size + 1, 1, none⟩ = some (.int .i64 0) := (hc1 _ _ (by first | omega | (simp; done) | (simp; omega))).trans (by go_cell)
  have f1 : w1.frozen? ⟨w.heap.size + 1, 1, none⟩ = false := (hf1 _ _ (by first | omega | (simp; done) | (simp; omega))).trans (by simp [go_sem])
  have hz : w.heap.size + 1 < w1.heap.size := by omega
  have hz0 : w.heap.size < w1.heap.size := by omega
  clear hc1 hf1 hb1
  rcases HK.out with ⟨hv, rfl, rfl, rfl⟩ | ⟨hv, rfl, rfl, rfl, rfl⟩ | ⟨hv, hM, hX, hY, rfl⟩
  · clear HK
    rw [hv]
    clear hv
    go_wp2_with fail
    refine bodyPost_ret (v := .tuple #[.agg #[.int .i64 _, .int .i64 _], .int .i64 _]) (by simp [results, Try.results18, go_sem, p0, p1, p2, p3, q0, q1, hz, hz0] <;> first | rfl | ((repeat' apply And.intro) <;> rfl)) rfl ⟨rfl, by go_grown⟩
  · clear HK
    rw [hv]
    clear hv
    go_wp2_with fail
    refine bodyPost_ret (v := .tuple #[.agg #[.int .i64 _, .int .i64 _], .int .i64 _]) (by simp [results, Try.results18, go_sem, p0, p1, p2, p3, q0, q1, hz, hz0] <;> first | rfl | ((repeat' apply And.intro) <;> rfl)) rfl ⟨rfl, by go_grown⟩
  · clear HK
    obtain ⟨n0, n1, m0, m1⟩ := vld_bd hv
    rw [hv]
    clear hv
    obtain ⟨a, rfl⟩ := Int.eq_ofNat_of_zero_le n0
    obtain ⟨b, rfl⟩ := Int.eq_ofNat_of_zero_le m0
    have hb0 : 0 < b := by omega
    have hM' : ((b : Int) == 0) = false := by simp; omega
    have hG := Nat.gcd_pos_of_pos_right a hb0
    have C := fun w => gcd23 a b w (by omega) (by omega)
    simp only [Int.toNat_natCast] at hX hY
    have hG2 := Nat.gcd_le_right a hb0
    generalize Nat.gcd a b = G at hG C hX hY hG2
    have HXY := Lib.hid (And.intro hX hY)
    replace C := Lib.hid C
    clear hM hX hY
    have k1 : (1 : Int) ≤ (G : Int) := by omega
    have k2 : ((G : Int) == 0) = false := by simp; omega
    go_wp2_with fail
    refine (C.out _).mono ?_
    rintro r w2 ⟨rfl, hb2⟩
    have hg2 := chain hg1 hb2
    obtain ⟨hc2, hf2⟩ := bcell hb2
    have sz2 := hb2.size
    replace p0 := (hc2 _ _ hz0).trans p0
    replace e0 := (hf2 _ _ hz0).trans e0
    replace p1 := (hc2 _ _ hz0).trans p1
    replace e1 := (hf2 _ _ hz0).trans e1
    replace p2 := (hc2 _ _ hz0).trans p2
    replace e2 := (hf2 _ _ hz0).trans e2
    replace p3 := (hc2 _ _ hz0).trans p3
    replace e3 := (hf2 _ _ hz0).trans e3
    replace q0 := (hc2 _ _ hz).trans q0
    replace f0 := (hf2 _ _ hz).trans f0
    replace q1 := (hc2 _ _ hz).trans q1
    replace f1 := (hf2 _ _ hz).trans f1
    replace hz : w.heap.size + 1 < w2.heap.size := by omega
    replace hz0 : w.heap.size < w2.heap.size := by omega
    clear hc2 hf2 hb2 hg1 C
    go_wp2_with fail
    go_region
    go_wp2_with fail
    refine bodyPost_ret (v := .tuple #[.agg #[.int .i64 _, .int .i64 _], .int .i64 _]) (by simp [results, Try.results18, go_sem, p0, p1, p2, p3, q0, q1, hz, hz0] <;> first | rfl | ((repeat' apply And.intro) <;> rfl)) rfl ⟨by rw [HXY.out.1, HXY.out.2, wq a G (by omega), wq b G (by omega)], by go_grown⟩
set_option maxHeartbeats 2000000 in
theorem ratio19 (D R : Bool) (N M : Int) (w : World) : Calls Try.prog 19 #[.agg #[.bool D, .bool R, .int .i64 N, .int .i64 M]] w fun r w' => r = .returned (.tuple #[.agg #[.int .i64 (rtX D R N M), .int .i64 (rtY D R N M)], .int .i64 (rtE D R N M)]) ∧ Below w.heap.size w w' := by
  have key : (vld D R N M = false ∧ rtX D R N M = 0 ∧ rtY D R N M = 0 ∧ rtE D R N M = 1) ∨ (vld D R N M = true ∧ M = 0 ∧ rtX D R N M = 0 ∧ rtY D R N M = 0 ∧ rtE D R N M = 10) ∨
      (vld D R N M = true ∧ M ≠ 0 ∧ rtX D R N M = N / (Nat.gcd N.toNat M.toNat : Nat) ∧ rtY D R N M = M / (Nat.gcd N.toNat M.toNat : Nat) ∧ rtE D R N M = 0) := by
    unfold rtX rtY rtE
    cases vld D R N M
    · simp
    · by_cases h : M = 0 <;> simp [h]
  generalize rtX D R N M = X at key ⊢
  generalize rtY D R N M = Y at key ⊢
  generalize rtE D R N M = E at key ⊢
  have HK := Lib.hid key
  clear key
  go_enter Try.func19, Try.ntmps19
  go_wp2_with fail
  refine (valid10 _ _ _ _ _).mono ?_
  rintro r w1 ⟨rfl, hb1⟩
  have hg1 := chain (w := w) (by go_grown) hb1
  obtain ⟨hc1, hf1⟩ := bcell hb1
  have sz1 := hb1.size
  simp at sz1
  have p0 : w1.cell? ⟨w.heap.size, 0, none⟩ = some (.bool D) := (hc1 _ _ (by first | omega | (simp; done) | (simp; omega))).trans (by go_cell)
  have e0 : w1.frozen? ⟨w.heap.size, 0, none⟩ = false := (hf1 _ _ (by first | omega | (simp; done) | (simp; omega))).trans (by simp [go_sem])
  have p1 : w1.cell? ⟨w.heap.size, 1, none⟩ = some (.bool R) := (hc1 _ _ (by first | omega | (simp; done) | (simp; omega))).trans (by go_cell)
  have e1 : w1.frozen? ⟨w.heap.size, 1, none⟩ = false := (hf1 _ _ (by first | omega | (simp; done) | (simp; omega))).trans (by simp [go_sem])
  have p2 : w1.cell? ⟨w.heap.size, 2, none⟩ = some (.int .i64 N) := (hc1 _ _ (by first | omega | (simp; done) | (simp; omega))).trans (by go_cell)
  have e2 : w1.frozen? ⟨w.heap.size, 2, none⟩ = false := (hf1 _ _ (by first | omega | (simp; done) | (simp; omega))).trans (by simp [go_sem])
  have p3 : w1.cell? ⟨w.heap.size, 3, none⟩ = some (.int .i64 M) := (hc1 _ _ (by first | omega | (simp; done) | (simp; omega))).trans (by go_cell)
  have e3 : w1.frozen? ⟨w.heap.size, 3, none⟩ = false := (hf1 _ _ (by first | omega | (simp; done) | (simp; omega))).trans (by simp [go_sem])
  have q0 : w1.cell? ⟨w.heap.size + 1, 0, none⟩ = some (.int .i64 0) := (hc1 _ _ (by first | omega | (simp; done) | (simp; omega))).trans (by go_cell)
  have f0 : w1.frozen? ⟨w.heap.size + 1, 0, none⟩ = false := (hf1 _ _ (by first | omega | (simp; done) | (simp; omega))).trans (by simp [go_sem])
  have q1 : w1.cell? ⟨w.heap.size + 1, 1, none⟩ = some (.int .i64 0) := (hc1 _ _ (by first | omega | (simp; done) | (simp; omega))).trans (by go_cell)
  have f1 : w1.frozen? ⟨w.heap.size + 1, 1, none⟩ = false := (hf1 _ _ (by first | omega | (simp; done) | (simp; omega))).trans (by simp [go_sem])
  have hz : w.heap.size + 1 < w1.heap.size := by omega
  have hz0 : w.heap.size < w1.heap.size := by omega
  clear hc1 hf1 hb1
  rcases HK.out with ⟨hv, rfl, rfl, rfl⟩ | ⟨hv, rfl, rfl, rfl, rfl⟩ | ⟨hv, hM, hX, hY, rfl⟩
  · clear HK
    rw [hv]
    clear hv
    go_wp2_with fail
    refine bodyPost_ret (v := .tuple #[.agg #[.int .i64 _, .int .i64 _], .int .i64 _]) (by simp [results, Try.results19, go_sem, p0, p1, p2, p3, q0, q1, hz, hz0] <;> first | rfl | ((repeat' apply And.intro) <;> rfl)) rfl ⟨rfl, by go_grown⟩
  · clear HK
    rw [hv]
    clear hv
    go_wp2_with fail
    refine bodyPost_ret (v := .tuple #[.agg #[.int .i64 _, .int .i64 _], .int .i64 _]) (by simp [results, Try.results19, go_sem, p0, p1, p2, p3, q0, q1, hz, hz0] <;> first | rfl | ((repeat' apply And.intro) <;> rfl)) rfl ⟨rfl, by go_grown⟩
  · clear HK
    obtain ⟨n0, n1, m0, m1⟩ := vld_bd hv
    rw [hv]
    clear hv
    obtain ⟨a, rfl⟩ := Int.eq_ofNat_of_zero_le n0
    obtain ⟨b, rfl⟩ := Int.eq_ofNat_of_zero_le m0
    have hb0 : 0 < b := by omega
    have hM' : ((b : Int) == 0) = false := by simp; omega
    have hG := Nat.gcd_pos_of_pos_right a hb0
    have C := fun w => gcd24 a b w (by omega) (by omega)
    simp only [Int.toNat_natCast] at hX hY
    have hG2 := Nat.gcd_le_right a hb0
    generalize Nat.gcd a b = G at hG C hX hY hG2
    have HXY := Lib.hid (And.intro hX hY)
    replace C := Lib.hid C
    clear hM hX hY
    have k1 : (1 : Int) ≤ (G : Int) := by omega
    have k2 : ((G : Int) == 0) = false := by simp; omega
    go_wp2_with fail
    refine (C.out _).mono ?_
    rintro r w2 ⟨rfl, hb2⟩
    have hg2 := chain hg1 hb2
    obtain ⟨hc2, hf2⟩ := bcell hb2
    have sz2 := hb2.size
    replace p0 := (hc2 _ _ hz0).trans p0
    replace e0 := (hf2 _ _ hz0).trans e0
    replace p1 := (hc2 _ _ hz0).trans p1
    replace e1 := (hf2 _ _ hz0).trans e1
    replace p2 := (hc2 _ _ hz0).trans p2
    replace e2 := (hf2 _ _ hz0).trans e2
    replace p3 := (hc2 _ _ hz0).trans p3
    replace e3 := (hf2 _ _ hz0).trans e3
    replace q0 := (hc2 _ _ hz).trans q0
    replace f0 := (hf2 _ _ hz).trans f0
    replace q1 := (hc2 _ _ hz).trans q1
    replace f1 := (hf2 _ _ hz).trans f1
    replace hz : w.heap.size + 1 < w2.heap.size := by omega
    replace hz0 : w.heap.size < w2.heap.size := by omega
    clear hc2 hf2 hb2 hg1 C
    go_wp2_with fail
    go_region
    go_wp2_with fail
    refine bodyPost_ret (v := .tuple #[.agg #[.int .i64 _, .int .i64 _], .int .i64 _]) (by simp [results, Try.results19, go_sem, p0, p1, p2, p3, q0, q1, hz, hz0] <;> first | rfl | ((repeat' apply And.intro) <;> rfl)) rfl ⟨by rw [HXY.out.1, HXY.out.2, wq a G (by omega), wq b G (by omega)], by go_grown⟩
end Go.Proofs.Ytomnhbbgndopnaa
