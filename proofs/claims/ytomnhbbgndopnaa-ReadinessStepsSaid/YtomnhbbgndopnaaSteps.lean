/-
  The contracts of readiness.count, Step and Cycle. Conditions: the cells that a count is handed hold numbers in their range.
-/
import Derived.Test.YtomnhbbgndopnaaBase
set_option linter.unusedVariables false
namespace Go.Proofs.Ytomnhbbgndopnaa
open Go.RowKit
theorem count_n_big (b : Nat) (X : Int) (w : World) (h2 : w.cell? ⟨b, 2, none⟩ = some (.int .i64 65535)) (h3 : w.cell? ⟨b, 3, none⟩ = some (.int .i64 X)) (f2 : w.frozen? ⟨b, 2, none⟩ = false) (f3 : w.frozen? ⟨b, 3, none⟩ = false) (m0 : 0 ≤ X) (m1 : X ≤ 65535) :
    Calls Try.prog 21 #[.pointer (some ⟨b, 0, none⟩), .pointer (some ⟨b, 2, none⟩)] w fun r w' => r = .returned (.tuple #[]) ∧ ((w.setCell ⟨b, 2, none⟩ (.int .i64 32767)).setCell ⟨b, 3, none⟩ (.int .i64 (X / 2))).setCell ⟨b, 2, none⟩ (.int .i64 32768) = w' := by
  go_enter Try.func21, Try.ntmps21
  go_wp2
  go_end0
  exact ⟨rfl, rfl⟩
theorem count_n (b : Nat) (X : Int) (w : World) (h2 : w.cell? ⟨b, 2, none⟩ = some (.int .i64 X)) (f2 : w.frozen? ⟨b, 2, none⟩ = false) (m0 : 0 ≤ X) (m1 : X < 65535) :
    Calls Try.prog 21 #[.pointer (some ⟨b, 0, none⟩), .pointer (some ⟨b, 2, none⟩)] w fun r w' => r = .returned (.tuple #[]) ∧ w.setCell ⟨b, 2, none⟩ (.int .i64 (X + 1)) = w' := by
  have hX : (X == 65535) = false := by simp; omega
  go_enter Try.func21, Try.ntmps21
  go_wp2
  go_end0
  exact ⟨rfl, rfl⟩
theorem count_d_big (b : Nat) (X : Int) (w : World) (h3 : w.cell? ⟨b, 3, none⟩ = some (.int .i64 65535)) (h2 : w.cell? ⟨b, 2, none⟩ = some (.int .i64 X)) (f2 : w.frozen? ⟨b, 2, none⟩ = false) (f3 : w.frozen? ⟨b, 3, none⟩ = false) (m0 : 0 ≤ X) (m1 : X ≤ 65535) :
    Calls Try.prog 21 #[.pointer (some ⟨b, 0, none⟩), .pointer (some ⟨b, 3, none⟩)] w fun r w' => r = .returned (.tuple #[]) ∧ ((w.setCell ⟨b, 2, none⟩ (.int .i64 (X / 2))).setCell ⟨b, 3, none⟩ (.int .i64 32767)).setCell ⟨b, 3, none⟩ (.int .i64 32768) = w' := by
  go_enter Try.func21, Try.ntmps21
  go_wp2
  go_end0
  exact ⟨rfl, rfl⟩
theorem count_d (b : Nat) (X : Int) (w : World) (h3 : w.cell? ⟨b, 3, none⟩ = some (.int .i64 X)) (f3 : w.frozen? ⟨b, 3, none⟩ = false) (m0 : 0 ≤ X) (m1 : X < 65535) :
    Calls Try.prog 21 #[.pointer (some ⟨b, 0, none⟩), .pointer (some ⟨b, 3, none⟩)] w fun r w' => r = .returned (.tuple #[]) ∧ w.setCell ⟨b, 3, none⟩ (.int .i64 (X + 1)) = w' := by
  have hX : (X == 65535) = false := by simp; omega
  go_enter Try.func21, Try.ntmps21
  go_wp2
  go_end0
  exact ⟨rfl, rfl⟩
/-- what a count leaves of a readiness in block b, told without the stores -/
def CntPost (b : Nat) (N' M' : Int) (w : World) (r : Ending) (w' : World) : Prop :=
  r = .returned (.tuple #[]) ∧ w'.cell? ⟨b, 0, none⟩ = w.cell? ⟨b, 0, none⟩ ∧ w'.cell? ⟨b, 1, none⟩ = w.cell? ⟨b, 1, none⟩ ∧ w'.cell? ⟨b, 2, none⟩ = some (.int .i64 N') ∧ w'.cell? ⟨b, 3, none⟩ = some (.int .i64 M') ∧
    (∀ b' o, b' ≠ b → w'.cell? ⟨b', o, none⟩ = w.cell? ⟨b', o, none⟩) ∧ (∀ b' o, w'.frozen? ⟨b', o, none⟩ = w.frozen? ⟨b', o, none⟩) ∧ w'.heap.size = w.heap.size ∧ ∀ B, B ≤ b → Below B w w'
theorem cnt_one {b i : Nat} {w : World} {u X : Value} (hi : i = 2 ∨ i = 3) (h : w.cell? ⟨b, i, none⟩ = some u) :
    (∀ b' o, (b' ≠ b ∨ o ≠ i) → (w.setCell ⟨b, i, none⟩ X).cell? ⟨b', o, none⟩ = w.cell? ⟨b', o, none⟩) ∧ (w.setCell ⟨b, i, none⟩ X).cell? ⟨b, i, none⟩ = some X ∧ (∀ b' o, (w.setCell ⟨b, i, none⟩ X).frozen? ⟨b', o, none⟩ = w.frozen? ⟨b', o, none⟩) ∧ (w.setCell ⟨b, i, none⟩ X).heap.size = w.heap.size ∧ ∀ B, B ≤ b → Below B w (w.setCell ⟨b, i, none⟩ X) := by
  refine ⟨fun b' o hne => World.cell?_setCell_other w _ _ X (fun e => ?_), ?_, fun b' o => by simp [go_sem], by simp, fun B hB => (Below.refl B w).setCell hB X⟩
  · injection e with e1 e2
    rcases hne with h | h
    · exact h e1.symm
    · exact h e2.symm
  · simp [go_sem, h]
theorem cnt_n {b : Nat} {X M : Int} {w : World} (h2 : w.cell? ⟨b, 2, none⟩ = some (.int .i64 X)) (h3 : w.cell? ⟨b, 3, none⟩ = some (.int .i64 M)) (f2 : w.frozen? ⟨b, 2, none⟩ = false) (f3 : w.frozen? ⟨b, 3, none⟩ = false) (x0 : 0 ≤ X) (x1 : X ≤ 65535) (m0 : 0 ≤ M) (m1 : M ≤ 65535) :
    Calls Try.prog 21 #[.pointer (some ⟨b, 0, none⟩), .pointer (some ⟨b, 2, none⟩)] w (CntPost b (cntN X M) (cntM X M) w) := by
  by_cases hX : X = 65535
  · subst hX
    refine (count_n_big b M w h2 h3 f2 f3 m0 m1).mono ?_
    rintro r w' ⟨rfl, rfl⟩
    obtain ⟨a1, a2, a3, a4, a5⟩ := cnt_one (X := .int .i64 32767) (.inl rfl) h2
    obtain ⟨b1, b2, b3, b4, b5⟩ := cnt_one (w := w.setCell ⟨b, 2, none⟩ (.int .i64 32767)) (X := .int .i64 (M / 2)) (.inr rfl) ((a1 b 3 (.inr (by omega))).trans h3)
    obtain ⟨c1, c2, c3, c4, c5⟩ := cnt_one (w := (w.setCell ⟨b, 2, none⟩ (.int .i64 32767)).setCell ⟨b, 3, none⟩ (.int .i64 (M / 2))) (X := .int .i64 32768) (.inl rfl) ((b1 b 2 (.inr (by omega))).trans a2)
    refine ⟨rfl, ?_, ?_, ?_, ?_, ?_, ?_, ?_, ?_⟩
    · exact (c1 b 0 (.inr (by omega))).trans ((b1 b 0 (.inr (by omega))).trans (a1 b 0 (.inr (by omega))))
    · exact (c1 b 1 (.inr (by omega))).trans ((b1 b 1 (.inr (by omega))).trans (a1 b 1 (.inr (by omega))))
    · exact c2
    · exact (c1 b 3 (.inr (by omega))).trans b2
    · exact fun b' o h => (c1 b' o (.inl h)).trans ((b1 b' o (.inl h)).trans (a1 b' o (.inl h)))
    · exact fun b' o => (c3 b' o).trans ((b3 b' o).trans (a3 b' o))
    · exact c4.trans (b4.trans a4)
    · exact fun B hB => ((a5 B hB).trans (b5 B hB)).trans (c5 B hB)
  · refine (count_n b X w h2 f2 x0 (by omega)).mono ?_
    rintro r w' ⟨rfl, rfl⟩
    obtain ⟨a1, a2, a3, a4, a5⟩ := cnt_one (X := .int .i64 (X + 1)) (.inl rfl) h2
    refine ⟨rfl, a1 b 0 (.inr (by omega)), a1 b 1 (.inr (by omega)), ?_, ?_, fun b' o h => a1 b' o (.inl h), a3, a4, a5⟩
    · unfold cntN; rw [if_neg hX]; exact a2
    · unfold cntM; rw [if_neg hX]; exact (a1 b 3 (.inr (by omega))).trans h3
theorem cnt_d {b : Nat} {X M : Int} {w : World} (h2 : w.cell? ⟨b, 2, none⟩ = some (.int .i64 X)) (h3 : w.cell? ⟨b, 3, none⟩ = some (.int .i64 M)) (f2 : w.frozen? ⟨b, 2, none⟩ = false) (f3 : w.frozen? ⟨b, 3, none⟩ = false) (x0 : 0 ≤ X) (x1 : X ≤ 65535) (m0 : 0 ≤ M) (m1 : M ≤ 65535) :
    Calls Try.prog 21 #[.pointer (some ⟨b, 0, none⟩), .pointer (some ⟨b, 3, none⟩)] w (CntPost b (cycN X M) (cycM X M) w) := by
  by_cases hM : M = 65535
  · subst hM
    refine (count_d_big b X w h3 h2 f2 f3 x0 x1).mono ?_
    rintro r w' ⟨rfl, rfl⟩
    obtain ⟨a1, a2, a3, a4, a5⟩ := cnt_one (X := .int .i64 (X / 2)) (.inl rfl) h2
    obtain ⟨b1, b2, b3, b4, b5⟩ := cnt_one (w := w.setCell ⟨b, 2, none⟩ (.int .i64 (X / 2))) (X := .int .i64 32767) (.inr rfl) ((a1 b 3 (.inr (by omega))).trans h3)
    obtain ⟨c1, c2, c3, c4, c5⟩ := cnt_one (w := (w.setCell ⟨b, 2, none⟩ (.int .i64 (X / 2))).setCell ⟨b, 3, none⟩ (.int .i64 32767)) (X := .int .i64 32768) (.inr rfl) b2
    refine ⟨rfl, ?_, ?_, ?_, ?_, ?_, ?_, ?_, ?_⟩
    · exact (c1 b 0 (.inr (by omega))).trans ((b1 b 0 (.inr (by omega))).trans (a1 b 0 (.inr (by omega))))
    · exact (c1 b 1 (.inr (by omega))).trans ((b1 b 1 (.inr (by omega))).trans (a1 b 1 (.inr (by omega))))
    · exact (c1 b 2 (.inr (by omega))).trans ((b1 b 2 (.inr (by omega))).trans a2)
    · exact c2
    · exact fun b' o h => (c1 b' o (.inl h)).trans ((b1 b' o (.inl h)).trans (a1 b' o (.inl h)))
    · exact fun b' o => (c3 b' o).trans ((b3 b' o).trans (a3 b' o))
    · exact c4.trans (b4.trans a4)
    · exact fun B hB => ((a5 B hB).trans (b5 B hB)).trans (c5 B hB)
  · refine (count_d b M w h3 f3 m0 (by omega)).mono ?_
    rintro r w' ⟨rfl, rfl⟩
    obtain ⟨a1, a2, a3, a4, a5⟩ := cnt_one (X := .int .i64 (M + 1)) (.inr rfl) h3
    refine ⟨rfl, a1 b 0 (.inr (by omega)), a1 b 1 (.inr (by omega)), ?_, ?_, fun b' o h => a1 b' o (.inl h), a3, a4, a5⟩
    · unfold cycN; rw [if_neg hM]; exact (a1 b 2 (.inr (by omega))).trans h2
    · unfold cycM; rw [if_neg hM]; exact a2
set_option maxHeartbeats 1000000 in
theorem step8 (D R began ran : Bool) (N M : Int) (w : World) (D' R' : Bool) (N' M' e : Int)
    (h : (vld D R N M = false ∧ D' = false ∧ R' = false ∧ N' = 0 ∧ M' = 0 ∧ e = 1) ∨ (vld D R N M = true ∧ ran = true ∧ began = false ∧ D' = false ∧ R' = false ∧ N' = 0 ∧ M' = 0 ∧ e = 6) ∨
      (vld D R N M = true ∧ ran = false ∧ D' = D ∧ R' = R ∧ N' = N ∧ M' = M ∧ e = 0) ∨ (vld D R N M = true ∧ ran = true ∧ began = true ∧ R = true ∧ D' = true ∧ R' = true ∧ N' = N ∧ M' = M ∧ e = 0) ∨
      (vld D R N M = true ∧ ran = true ∧ began = true ∧ R = false ∧ D' = true ∧ R' = true ∧ N' = cntN N M ∧ M' = cntM N M ∧ e = 0)) :
    Calls Try.prog 8 #[.agg #[.bool D, .bool R, .int .i64 N, .int .i64 M], .bool began, .bool ran] w fun r w' => r = .returned (.tuple #[.agg #[.bool D', .bool R', .int .i64 N', .int .i64 M'], .int .i64 e]) ∧ Below w.heap.size w w' := by
  go_enter Try.func8, Try.ntmps8
  go_wp2_with fail
  refine (valid20 _ _ _ _ _).mono ?_
  rintro r w1 ⟨rfl, hb1⟩
  have hg1 := chain (w := w) (by go_grown) hb1
  obtain ⟨hc1, hf1⟩ := bcell hb1
  have hz1 := hb1.size
  simp at hz1
  have p0 : w1.cell? ⟨w.heap.size, 0, none⟩ = some (.bool D) := (hc1 _ _ (by simp; omega)).trans (by go_cell)
  have e0 : w1.frozen? ⟨w.heap.size, 0, none⟩ = false := (hf1 _ _ (by simp; omega)).trans (by simp [go_sem])
  have p1 : w1.cell? ⟨w.heap.size, 1, none⟩ = some (.bool R) := (hc1 _ _ (by simp; omega)).trans (by go_cell)
  have e1 : w1.frozen? ⟨w.heap.size, 1, none⟩ = false := (hf1 _ _ (by simp; omega)).trans (by simp [go_sem])
  have p2 : w1.cell? ⟨w.heap.size, 2, none⟩ = some (.int .i64 N) := (hc1 _ _ (by simp; omega)).trans (by go_cell)
  have e2 : w1.frozen? ⟨w.heap.size, 2, none⟩ = false := (hf1 _ _ (by simp; omega)).trans (by simp [go_sem])
  have p3 : w1.cell? ⟨w.heap.size, 3, none⟩ = some (.int .i64 M) := (hc1 _ _ (by simp; omega)).trans (by go_cell)
  have e3 : w1.frozen? ⟨w.heap.size, 3, none⟩ = false := (hf1 _ _ (by simp; omega)).trans (by simp [go_sem])
  have q0 : w1.cell? ⟨w.heap.size + 1, 0, none⟩ = some (.bool false) := (hc1 _ _ (by simp)).trans (by go_cell)
  have f0 : w1.frozen? ⟨w.heap.size + 1, 0, none⟩ = false := (hf1 _ _ (by simp)).trans (by simp [go_sem])
  have q1 : w1.cell? ⟨w.heap.size + 1, 1, none⟩ = some (.bool false) := (hc1 _ _ (by simp)).trans (by go_cell)
  have f1 : w1.frozen? ⟨w.heap.size + 1, 1, none⟩ = false := (hf1 _ _ (by simp)).trans (by simp [go_sem])
  have q2 : w1.cell? ⟨w.heap.size + 1, 2, none⟩ = some (.int .i64 0) := (hc1 _ _ (by simp)).trans (by go_cell)
  have f2 : w1.frozen? ⟨w.heap.size + 1, 2, none⟩ = false := (hf1 _ _ (by simp)).trans (by simp [go_sem])
  have q3 : w1.cell? ⟨w.heap.size + 1, 3, none⟩ = some (.int .i64 0) := (hc1 _ _ (by simp)).trans (by go_cell)
  have f3 : w1.frozen? ⟨w.heap.size + 1, 3, none⟩ = false := (hf1 _ _ (by simp)).trans (by simp [go_sem])
  have hz : w.heap.size + 1 < w1.heap.size := by omega
  have hz0 : w.heap.size < w1.heap.size := by omega
  clear hb1 hc1 hf1
  rcases h with ⟨hv, rfl, rfl, rfl, rfl, rfl⟩ | ⟨hv, rfl, rfl, rfl, rfl, rfl, rfl, rfl⟩ | ⟨hv, rfl, rfl, rfl, rfl, rfl, rfl⟩ | ⟨hv, rfl, rfl, rfl, rfl, rfl, rfl, rfl, rfl⟩ | ⟨hv, rfl, rfl, rfl, rfl, rfl, hN, hM, rfl⟩
  case inr.inr.inr.inr =>
    obtain ⟨hb0, hb1, hb2, hb3⟩ := vld_bd hv
    rw [hv]
    clear hv
    have HC := Lib.hid (cnt_n p2 p3 e2 e3 hb0 hb1 hb2 hb3)
    rw [← hN, ← hM] at HC
    clear hN hM
    go_wp2_with fail
    refine (HC.out).mono ?_
    rintro r w2 ⟨rfl, c0, c1, c2, c3, c4, c5, c6, c7⟩
    have hg2 : Below w.heap.size w w2 := hg1.trans (c7 _ (Nat.le_refl _))
    clear HC
    have p0 := c0.trans p0
    have p1 := c1.trans p1
    have q0 := (c4 _ _ (by omega)).trans q0
    have q1 := (c4 _ _ (by omega)).trans q1
    have q2 := (c4 _ _ (by omega)).trans q2
    have q3 := (c4 _ _ (by omega)).trans q3
    have e0 := (c5 _ _).trans e0
    have e1 := (c5 _ _).trans e1
    have f0 := (c5 _ _).trans f0
    have f1 := (c5 _ _).trans f1
    have f2 := (c5 _ _).trans f2
    have f3 := (c5 _ _).trans f3
    have p2 := c2
    have p3 := c3
    have hz : w.heap.size + 1 < w2.heap.size := by omega
    have hz0 : w.heap.size < w2.heap.size := by omega
    clear c0 c1 c2 c3 c4 c5 c6 c7
    go_wp2
    refine bodyPost_ret (v := .tuple #[.agg #[.bool _, .bool _, .int .i64 _, .int .i64 _], .int .i64 _]) (by simp [results, Try.results8, go_sem, p0, p1, p2, p3, q0, q1, q2, q3, hz, hz0] <;> first | rfl | exact ⟨rfl, rfl⟩ | exact ⟨rfl, rfl, rfl⟩ | exact ⟨rfl, rfl, rfl, rfl⟩) rfl ⟨ret_r rfl rfl rfl rfl rfl, ?_⟩
    go_grown
  all_goals
    rw [hv]
    clear hv
    go_wp2
    refine bodyPost_ret (v := .tuple #[.agg #[.bool _, .bool _, .int .i64 _, .int .i64 _], .int .i64 _]) (by simp [results, Try.results8, go_sem, p0, p1, p2, p3, q0, q1, q2, q3, hz, hz0] <;> first | rfl | exact ⟨rfl, rfl⟩ | exact ⟨rfl, rfl, rfl⟩ | exact ⟨rfl, rfl, rfl, rfl⟩) rfl ⟨ret_r rfl rfl rfl rfl rfl, ?_⟩
    go_grown
set_option maxHeartbeats 1000000 in
theorem cycle9 (D R general : Bool) (N M : Int) (w : World) (D' R' : Bool) (N' M' e : Int)
    (h : (vld D R N M = false ∧ D' = false ∧ R' = false ∧ N' = 0 ∧ M' = 0 ∧ e = 1) ∨ (vld D R N M = true ∧ general = false ∧ D' = D ∧ R' = false ∧ N' = N ∧ M' = M ∧ e = 0) ∨
      (vld D R N M = true ∧ general = true ∧ D' = D ∧ R' = false ∧ N' = cycN N M ∧ M' = cycM N M ∧ e = 0)) :
    Calls Try.prog 9 #[.agg #[.bool D, .bool R, .int .i64 N, .int .i64 M], .bool general] w fun r w' => r = .returned (.tuple #[.agg #[.bool D', .bool R', .int .i64 N', .int .i64 M'], .int .i64 e]) ∧ Below w.heap.size w w' := by
  go_enter Try.func9, Try.ntmps9
  go_wp2_with fail
  refine (valid20 _ _ _ _ _).mono ?_
  rintro r w1 ⟨rfl, hb1⟩
  have hg1 := chain (w := w) (by go_grown) hb1
  obtain ⟨hc1, hf1⟩ := bcell hb1
  have hz1 := hb1.size
  simp at hz1
  have p0 : w1.cell? ⟨w.heap.size, 0, none⟩ = some (.bool D) := (hc1 _ _ (by simp; omega)).trans (by go_cell)
  have e0 : w1.frozen? ⟨w.heap.size, 0, none⟩ = false := (hf1 _ _ (by simp; omega)).trans (by simp [go_sem])
  have p1 : w1.cell? ⟨w.heap.size, 1, none⟩ = some (.bool R) := (hc1 _ _ (by simp; omega)).trans (by go_cell)
  have e1 : w1.frozen? ⟨w.heap.size, 1, none⟩ = false := (hf1 _ _ (by simp; omega)).trans (by simp [go_sem])
  have p2 : w1.cell? ⟨w.heap.size, 2, none⟩ = some (.int .i64 N) := (hc1 _ _ (by simp; omega)).trans (by go_cell)
  have e2 : w1.frozen? ⟨w.heap.size, 2, none⟩ = false := (hf1 _ _ (by simp; omega)).trans (by simp [go_sem])
  have p3 : w1.cell? ⟨w.heap.size, 3, none⟩ = some (.int .i64 M) := (hc1 _ _ (by simp; omega)).trans (by go_cell)
  have e3 : w1.frozen? ⟨w.heap.size, 3, none⟩ = false := (hf1 _ _ (by simp; omega)).trans (by simp [go_sem])
  have q0 : w1.cell? ⟨w.heap.size + 1, 0, none⟩ = some (.bool false) := (hc1 _ _ (by simp)).trans (by go_cell)
  have f0 : w1.frozen? ⟨w.heap.size + 1, 0, none⟩ = false := (hf1 _ _ (by simp)).trans (by simp [go_sem])
  have q1 : w1.cell? ⟨w.heap.size + 1, 1, none⟩ = some (.bool false) := (hc1 _ _ (by simp)).trans (by go_cell)
  have f1 : w1.frozen? ⟨w.heap.size + 1, 1, none⟩ = false := (hf1 _ _ (by simp)).trans (by simp [go_sem])
  have q2 : w1.cell? ⟨w.heap.size + 1, 2, none⟩ = some (.int .i64 0) := (hc1 _ _ (by simp)).trans (by go_cell)
  have f2 : w1.frozen? ⟨w.heap.size + 1, 2, none⟩ = false := (hf1 _ _ (by simp)).trans (by simp [go_sem])
  have q3 : w1.cell? ⟨w.heap.size + 1, 3, none⟩ = some (.int .i64 0) := (hc1 _ _ (by simp)).trans (by go_cell)
  have f3 : w1.frozen? ⟨w.heap.size + 1, 3, none⟩ = false := (hf1 _ _ (by simp)).trans (by simp [go_sem])
  have hz : w.heap.size + 1 < w1.heap.size := by omega
  have hz0 : w.heap.size < w1.heap.size := by omega
  clear hb1 hc1 hf1
  rcases h with ⟨hv, rfl, rfl, rfl, rfl, rfl⟩ | ⟨hv, rfl, rfl, rfl, rfl, rfl, rfl⟩ | ⟨hv, rfl, rfl, rfl, hN, hM, rfl⟩
  case inr.inr =>
    obtain ⟨hb0, hb1, hb2, hb3⟩ := vld_bd hv
    rw [hv]
    clear hv
    have HC := Lib.hid (cnt_d p2 p3 e2 e3 hb0 hb1 hb2 hb3)
    rw [← hN, ← hM] at HC
    clear hN hM
    go_wp2_with fail
    refine (HC.out).mono ?_
    rintro r w2 ⟨rfl, c0, c1, c2, c3, c4, c5, c6, c7⟩
    have hg2 : Below w.heap.size w w2 := hg1.trans (c7 _ (Nat.le_refl _))
    clear HC
    have p0 := c0.trans p0
    have p1 := c1.trans p1
    have q0 := (c4 _ _ (by omega)).trans q0
    have q1 := (c4 _ _ (by omega)).trans q1
    have q2 := (c4 _ _ (by omega)).trans q2
    have q3 := (c4 _ _ (by omega)).trans q3
    have e0 := (c5 _ _).trans e0
    have e1 := (c5 _ _).trans e1
    have f0 := (c5 _ _).trans f0
    have f1 := (c5 _ _).trans f1
    have f2 := (c5 _ _).trans f2
    have f3 := (c5 _ _).trans f3
    have p2 := c2
    have p3 := c3
    have hz : w.heap.size + 1 < w2.heap.size := by omega
    have hz0 : w.heap.size < w2.heap.size := by omega
    clear c0 c1 c2 c3 c4 c5 c6 c7
    go_wp2
    refine bodyPost_ret (v := .tuple #[.agg #[.bool _, .bool _, .int .i64 _, .int .i64 _], .int .i64 _]) (by simp [results, Try.results9, go_sem, p0, p1, p2, p3, q0, q1, q2, q3, hz, hz0] <;> first | rfl | exact ⟨rfl, rfl⟩ | exact ⟨rfl, rfl, rfl⟩ | exact ⟨rfl, rfl, rfl, rfl⟩) rfl ⟨ret_r rfl rfl rfl rfl rfl, ?_⟩
    go_grown
  all_goals
    rw [hv]
    clear hv
    go_wp2
    refine bodyPost_ret (v := .tuple #[.agg #[.bool _, .bool _, .int .i64 _, .int .i64 _], .int .i64 _]) (by simp [results, Try.results9, go_sem, p0, p1, p2, p3, q0, q1, q2, q3, hz, hz0] <;> first | rfl | exact ⟨rfl, rfl⟩ | exact ⟨rfl, rfl, rfl⟩ | exact ⟨rfl, rfl, rfl, rfl⟩) rfl ⟨ret_r rfl rfl rfl rfl rfl, ?_⟩
    go_grown
end Go.Proofs.Ytomnhbbgndopnaa
