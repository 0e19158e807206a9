/-
  The contracts of the reference's half and Step. No condition but those that each theorem names.
-/
import Derived.Test.YtomnhbbgndopnaaCode2
import Derived.Deep.DeepCutAuto
set_option linter.unusedVariables false
namespace Go.Proofs.Ytomnhbbgndopnaa
open Go.RowKit
theorem half22 (D R : Bool) (N M : Int) (w : World) (h0 : 0 ≤ N) (h1 : 0 ≤ M) (h2 : N ≤ 65535) (h3 : M ≤ 65535) : Calls Try.prog 22 #[.agg #[.bool D, .bool R, .int .i64 N, .int .i64 M]] w fun r w' => r = .returned (.agg #[.bool D, .bool R, .int .i64 (N / 2), .int .i64 (M / 2)]) ∧ Below w.heap.size w w' := by
  go_enter Try.func22, Try.ntmps22
  go_wp2_with fail
  refine bodyPost_ret (v := .agg #[.bool _, .bool _, .int .i64 _, .int .i64 _]) (by simp [results, Try.results22, go_sem] <;> first | rfl | ((repeat' apply And.intro) <;> rfl)) rfl ⟨rfl, by go_grown⟩
set_option maxHeartbeats 2000000 in
theorem step16 (D R began ran : Bool) (N M : Int) (w : World) (D' R' : Bool) (N' M' e : Int)
    (h : (vld D R N M = false ∧ D' = false ∧ R' = false ∧ N' = 0 ∧ M' = 0 ∧ e = 1) ∨ (vld D R N M = true ∧ ran = true ∧ began = false ∧ D' = false ∧ R' = false ∧ N' = 0 ∧ M' = 0 ∧ e = 6) ∨
      (vld D R N M = true ∧ ran = false ∧ D' = D ∧ R' = R ∧ N' = N ∧ M' = M ∧ e = 0) ∨ (vld D R N M = true ∧ ran = true ∧ began = true ∧ R = true ∧ D' = true ∧ R' = true ∧ N' = N ∧ M' = M ∧ e = 0) ∨
      (vld D R N M = true ∧ ran = true ∧ began = true ∧ R = false ∧ D' = true ∧ R' = true ∧ N' = cntN N M ∧ M' = cntM N M ∧ e = 0)) :
    Calls Try.prog 16 #[.agg #[.bool D, .bool R, .int .i64 N, .int .i64 M], .bool began, .bool ran] w fun r w' => r = .returned (.tuple #[.agg #[.bool D', .bool R', .int .i64 N', .int .i64 M'], .int .i64 e]) ∧ Below w.heap.size w w' := by
  have HH := Lib.hid h
  clear h
  go_enter Try.func16, Try.ntmps16
  go_wp2_with fail
  refine (valid10 _ _ _ _ _).mono ?_
  rintro r w1 ⟨rfl, hb1⟩
  have hg1 := chain (w := w) (by go_grown) hb1
  obtain ⟨hc1, hf1⟩ := bcell hb1
  have sz1 := hb1.size
  simp at sz1
  have p0 : w1.cell? ⟨w.heap.size, 0, none⟩ = some (.bool D) := (hc1 _ _ (by first | omega | (simp; done) | (simp; omega))).trans (by go_cell)
  have e0 : w1.frozen? ⟨w.heap.size, 0, none⟩ = false := (hf1 _ _ (by first | omega | (simp; done) | (simp; omega))).trans (by simp [go_sem])
  have p1 : w1.cell? ⟨w.heap.size, 1, none⟩ = some (.bool R) := (hc1 _ _ (by first | omega | (simp; done) | (simp; omega))).trans (by go_cell)
  have e1 : w1.frozen? ⟨w.heap.size, 1, none⟩ = false := (hf1 _ _ (by first | omega | (simp; done) | (simp; omega))).trans (by simp [go_sem])
  have p2 : w1.cell? ⟨w.heap.size, 2, none⟩ = some (.int .i64 N) := (hc1 _ _ (by first | omega | (simp; done) | (simp; omega))).trans (by go_cell)
  have e2 : w1.frozen? ⟨w.heap.size, 2, none⟩ = false := (hf1 _ _ (by first | omega | (simp; done) | (simp; omega))).trans (by simp [go_sem])
  have p3 : w1.cell? ⟨w.heap.size, 3, none⟩ = some (.int .i64 M) := (hc1 _ _ (by first | omega | (simp; done) | (simp; omega))).trans (by go_cell)
  have e3 : w1.frozen? ⟨w.heap.size, 3, none⟩ = false := (hf1 _ _ (by first | omega | (simp; done) | (simp; omega))).trans (by simp [go_sem])
  have q0 : w1.cell? ⟨w.heap.size + 1, 0, none⟩ = some (.bool false) := (hc1 _ _ (by first | omega | (simp; done) | (simp; omega))).trans (by go_cell)
  have f0 : w1.frozen? ⟨w.heap.size + 1, 0, none⟩ = false := (hf1 _ _ (by first | omega | (simp; done) | (simp; omega))).trans (by simp [go_sem])
  have q1 : w1.cell? ⟨w.heap.size + 1, 1, none⟩ = some (.bool false) := (hc1 _ _ (by first | omega | (simp; done) | (simp; omega))).trans (by go_cell)
  have f1 : w1.frozen? ⟨w.heap.size + 1, 1, none⟩ = false := (hf1 _ _ (by first | omega | (simp; done) | (simp; omega))).trans (by simp [go_sem])
  have q2 : w1.cell? ⟨w.heap.size + 1, 2, none⟩ = some (.int .i64 0) := (hc1 _ _ (by first | omega | (simp; done) | (simp; omega))).trans (by go_cell)
  have f2 : w1.frozen? ⟨w.heap.size + 1, 2, none⟩ = false := (hf1 _ _ (by first | omega | (simp; done) | (simp; omega))).trans (by simp [go_sem])
  have q3 : w1.cell? ⟨w.heap.size + 1, 3, none⟩ = some (.int .i64 0) := (hc1 _ _ (by first | omega | (simp; done) | (simp; omega))).trans (by go_cell)
  have f3 : w1.frozen? ⟨w.heap.size + 1, 3, none⟩ = false := (hf1 _ _ (by first | omega | (simp; done) | (simp; omega))).trans (by simp [go_sem])
  have hz : w.heap.size + 1 < w1.heap.size := by omega
  have hz0 : w.heap.size < w1.heap.size := by omega
  clear hc1 hf1 hb1
  rcases HH.out with ⟨hv, rfl, rfl, rfl, rfl, rfl⟩ | ⟨hv, rfl, rfl, rfl, rfl, rfl, rfl, rfl⟩ | ⟨hv, rfl, rfl, rfl, rfl, rfl, rfl⟩ | ⟨hv, rfl, rfl, rfl, rfl, rfl, rfl, rfl, rfl⟩ | ⟨hv, rfl, rfl, rfl, rfl, rfl, hN, hM, rfl⟩
  case inr.inr.inr.inr =>
    clear HH
    obtain ⟨n0, n1, m0, m1⟩ := vld_bd hv
    rw [hv]
    clear hv
    by_cases h65 : N = 65535
    · subst h65
      obtain rfl : N' = 32768 := by rw [hN]; rfl
      obtain rfl : M' = M / 2 := by rw [hM]; rfl
      clear hN hM
      go_wp2_with fail
      refine (half22 _ _ _ _ _ (by omega) (by omega) (by omega) (by omega)).mono ?_
      rintro r w2 ⟨rfl, hb2⟩
      have hg2 := chain (w := w) (by go_grown) hb2
      obtain ⟨hc2, hf2⟩ := bcell hb2
      have sz2 := hb2.size
      simp at sz2
      have p0' : ∃ u, w2.cell? ⟨w.heap.size, 0, none⟩ = some u := ⟨_, (hc2 _ _ (by simp; omega)).trans (by go_cell)⟩
      replace e0 : w2.frozen? ⟨w.heap.size, 0, none⟩ = false := (hf2 _ _ (by simp; omega)).trans (by simp [go_sem, e0])
      replace q0 : w2.cell? ⟨w.heap.size + 1, 0, none⟩ = some (.bool false) := (hc2 _ _ (by simp; omega)).trans (by simp [go_sem, q0])
      replace f0 : w2.frozen? ⟨w.heap.size + 1, 0, none⟩ = false := (hf2 _ _ (by simp; omega)).trans (by simp [go_sem, f0])
      obtain ⟨u0, p0'⟩ := p0'
      have p1' : ∃ u, w2.cell? ⟨w.heap.size, 1, none⟩ = some u := ⟨_, (hc2 _ _ (by simp; omega)).trans (by go_cell)⟩
      replace e1 : w2.frozen? ⟨w.heap.size, 1, none⟩ = false := (hf2 _ _ (by simp; omega)).trans (by simp [go_sem, e1])
      replace q1 : w2.cell? ⟨w.heap.size + 1, 1, none⟩ = some (.bool false) := (hc2 _ _ (by simp; omega)).trans (by simp [go_sem, q1])
      replace f1 : w2.frozen? ⟨w.heap.size + 1, 1, none⟩ = false := (hf2 _ _ (by simp; omega)).trans (by simp [go_sem, f1])
      obtain ⟨u1, p1'⟩ := p1'
      have p2' : ∃ u, w2.cell? ⟨w.heap.size, 2, none⟩ = some u := ⟨_, (hc2 _ _ (by simp; omega)).trans (by go_cell)⟩
      replace e2 : w2.frozen? ⟨w.heap.size, 2, none⟩ = false := (hf2 _ _ (by simp; omega)).trans (by simp [go_sem, e2])
      replace q2 : w2.cell? ⟨w.heap.size + 1, 2, none⟩ = some (.int .i64 0) := (hc2 _ _ (by simp; omega)).trans (by simp [go_sem, q2])
      replace f2 : w2.frozen? ⟨w.heap.size + 1, 2, none⟩ = false := (hf2 _ _ (by simp; omega)).trans (by simp [go_sem, f2])
      obtain ⟨u2, p2'⟩ := p2'
      have p3' : ∃ u, w2.cell? ⟨w.heap.size, 3, none⟩ = some u := ⟨_, (hc2 _ _ (by simp; omega)).trans (by go_cell)⟩
      replace e3 : w2.frozen? ⟨w.heap.size, 3, none⟩ = false := (hf2 _ _ (by simp; omega)).trans (by simp [go_sem, e3])
      replace q3 : w2.cell? ⟨w.heap.size + 1, 3, none⟩ = some (.int .i64 0) := (hc2 _ _ (by simp; omega)).trans (by simp [go_sem, q3])
      replace f3 : w2.frozen? ⟨w.heap.size + 1, 3, none⟩ = false := (hf2 _ _ (by simp; omega)).trans (by simp [go_sem, f3])
      obtain ⟨u3, p3'⟩ := p3'
      replace hz : w.heap.size + 1 < w2.heap.size := by omega
      replace hz0 : w.heap.size < w2.heap.size := by omega
      clear hc2 hf2 hb2 p0 p1 p2 p3 hg1
      go_upto_region 12 with fail
      obtain ⟨w3, hw3⟩ : ∃ w3, w3 = ((((w2.setCell ⟨w.heap.size, 0, none⟩ (.bool true)).setCell ⟨w.heap.size, 1, none⟩ (.bool true)).setCell ⟨w.heap.size, 2, none⟩ (.int .i64 32767)).setCell ⟨w.heap.size, 3, none⟩ (.int .i64 (M / 2))) := ⟨_, rfl⟩
      have p0 : w3.cell? ⟨w.heap.size, 0, none⟩ = some (.bool true) := by rw [hw3]; simp [go_sem, p0', p1', p2', p3']
      replace e0 : w3.frozen? ⟨w.heap.size, 0, none⟩ = false := by rw [hw3]; simp [go_sem, e0]
      replace q0 : w3.cell? ⟨w.heap.size + 1, 0, none⟩ = some (.bool false) := by rw [hw3]; simp [go_sem, q0]
      replace f0 : w3.frozen? ⟨w.heap.size + 1, 0, none⟩ = false := by rw [hw3]; simp [go_sem, f0]
      have p1 : w3.cell? ⟨w.heap.size, 1, none⟩ = some (.bool true) := by rw [hw3]; simp [go_sem, p0', p1', p2', p3']
      replace e1 : w3.frozen? ⟨w.heap.size, 1, none⟩ = false := by rw [hw3]; simp [go_sem, e1]
      replace q1 : w3.cell? ⟨w.heap.size + 1, 1, none⟩ = some (.bool false) := by rw [hw3]; simp [go_sem, q1]
      replace f1 : w3.frozen? ⟨w.heap.size + 1, 1, none⟩ = false := by rw [hw3]; simp [go_sem, f1]
      have p2 : w3.cell? ⟨w.heap.size, 2, none⟩ = some (.int .i64 32767) := by rw [hw3]; simp [go_sem, p0', p1', p2', p3']
      replace e2 : w3.frozen? ⟨w.heap.size, 2, none⟩ = false := by rw [hw3]; simp [go_sem, e2]
      replace q2 : w3.cell? ⟨w.heap.size + 1, 2, none⟩ = some (.int .i64 0) := by rw [hw3]; simp [go_sem, q2]
      replace f2 : w3.frozen? ⟨w.heap.size + 1, 2, none⟩ = false := by rw [hw3]; simp [go_sem, f2]
      have p3 : w3.cell? ⟨w.heap.size, 3, none⟩ = some (.int .i64 (M / 2)) := by rw [hw3]; simp [go_sem, p0', p1', p2', p3']
      replace e3 : w3.frozen? ⟨w.heap.size, 3, none⟩ = false := by rw [hw3]; simp [go_sem, e3]
      replace q3 : w3.cell? ⟨w.heap.size + 1, 3, none⟩ = some (.int .i64 0) := by rw [hw3]; simp [go_sem, q3]
      replace f3 : w3.frozen? ⟨w.heap.size + 1, 3, none⟩ = false := by rw [hw3]; simp [go_sem, f3]
      have hg3 : Below w.heap.size w w3 := by rw [hw3]; go_grown
      have hz' : w.heap.size + 1 < w3.heap.size := by rw [hw3]; simpa using hz
      rw [← hw3]
      clear hw3 hg2 hz hz0 p0' p1' p2' p3'
      have hz := hz'
      have hz0 : w.heap.size < w3.heap.size := by omega
      clear hz'
      go_wp2_with fail
      refine bodyPost_ret (v := .tuple #[.agg #[.bool _, .bool _, .int .i64 _, .int .i64 _], .int .i64 _]) (by simp [results, Try.results16, go_sem, p0, p1, p2, p3, q0, q1, q2, q3, hz, hz0] <;> first | rfl | ((repeat' apply And.intro) <;> rfl)) rfl ⟨ret_r rfl rfl rfl rfl rfl, by go_grown⟩
    · obtain rfl : N' = N + 1 := by rw [hN]; unfold cntN; rw [if_neg h65]
      obtain rfl : M' = M := by rw [hM]; unfold cntM; rw [if_neg h65]
      clear hN hM
      have h65' : (N == 65535) = false := by simp [h65]
      go_wp2_with fail
      refine bodyPost_ret (v := .tuple #[.agg #[.bool _, .bool _, .int .i64 _, .int .i64 _], .int .i64 _]) (by simp [results, Try.results16, go_sem, p0, p1, p2, p3, q0, q1, q2, q3, hz, hz0] <;> first | rfl | ((repeat' apply And.intro) <;> rfl)) rfl ⟨ret_r rfl rfl rfl rfl rfl, by go_grown⟩
  all_goals
    clear HH
    rw [hv]
    clear hv
    go_wp2_with fail
    refine bodyPost_ret (v := .tuple #[.agg #[.bool _, .bool _, .int .i64 _, .int .i64 _], .int .i64 _]) (by simp [results, Try.results16, go_sem, p0, p1, p2, p3, q0, q1, q2, q3, hz, hz0] <;> first | rfl | ((repeat' apply And.intro) <;> rfl)) rfl ⟨ret_r rfl rfl rfl rfl rfl, by go_grown⟩
end Go.Proofs.Ytomnhbbgndopnaa
