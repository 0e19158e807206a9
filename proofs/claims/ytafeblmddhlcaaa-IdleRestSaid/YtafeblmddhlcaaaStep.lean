/-
  The contracts of idle.Step and of its reference: both answer the same state, output and error. No condition.
-/
import Derived.Test.YtafeblmddhlcaaaCtlB
import Derived.Test.YtafeblmddhlcaaaCtlC
set_option linter.unusedVariables false
namespace Go.Proofs.Ytafeblmddhlcaaa
open Go.RowKit
def stE (P I L H S t s : Int) : Int := if gainB P I L H = false then 1 else if spd t = false ∨ spd s = false then 2 else if sumB S = false then 1 else 0
def stS (P I L H S t s : Int) : Int := if stE P I L H S t s = 0 then ctlS P I L H S (t - s) else 0
def stU (P I L H S t s : Int) : Int := if stE P I L H S t s = 0 then clamp (ctlU P S (t - s)) L H else 0
theorem spd_bd {n : Int} (h : spd n = true) : 0 ≤ n ∧ n ≤ 12000 := by simpa [spd] using h
theorem sum_bd {n : Int} (h : sumB n = true) : -4398046511104 ≤ n ∧ n ≤ 4398046511104 := by simpa [sumB] using h
theorem step15 (P I L H S t s : Int) (w : World) : Calls Try.prog 15 #[.agg #[.int .i64 S], .agg #[.int .i64 P, .int .i64 I, .int .i64 L, .int .i64 H], .int .i64 t, .int .i64 s] w fun r w' => r = .returned (.tuple #[.agg #[.int .i64 (stS P I L H S t s)], .int .i64 (stU P I L H S t s), .int .i64 (stE P I L H S t s)]) ∧ Below w.heap.size w w' := by
  cases hg : gainB P I L H
  · have e1 : stE P I L H S t s = 1 := by simp [stE, hg]
    have e2 : stS P I L H S t s = 0 := by simp [stS, e1]
    have e3 : stU P I L H S t s = 0 := by simp [stU, e1]
    rw [e1, e2, e3]; clear e1 e2 e3
    go_enter Try.func15, Try.ntmps15
    go_wp2_with fail
    refine (gain24 _ _ _ _ _).mono ?_
    rintro r w1 ⟨rfl, hb1⟩
    have hg1 := chain (w := w) (by go_grown) hb1
    obtain ⟨hc1, hf1⟩ := bcell hb1
    have hz1 := hb1.size
    simp at hz1
    have q5 : w1.cell? ⟨w.heap.size + 1 + 1, 0, none⟩ = some (.int .i64 0) := (hc1 _ _ (by simp)).trans (by go_cell)
    have f5 : w1.frozen? ⟨w.heap.size + 1 + 1, 0, none⟩ = false := (hf1 _ _ (by simp)).trans (by simp [go_sem])
    have hz : w.heap.size + 1 + 1 < w1.heap.size := by omega
    clear hc1 hf1 hb1
    go_wp2
    refine bodyPost_ret (v := .tuple #[.agg #[.int .i64 _], .int .i64 _, .int .i64 _]) (by simp [results, Try.results15, go_sem, q5, hz]) rfl ⟨ret_aii rfl rfl rfl, ?_⟩
    go_grown
  · have hgf := gain_facts hg
    cases h1 : spd t <;> cases h2 : spd s
    case true.true =>
      obtain ⟨t0, t1⟩ := spd_bd h1
      obtain ⟨s0, s1⟩ := spd_bd h2
      have e1 : stE P I L H S t s = ctlBad P I L H S (t - s) := by
        unfold stE ctlBad sumB
        have : ¬ (t - s < -1048576 ∨ 1048576 < t - s) := by omega
        simp only [hg, h1, h2, if_neg this]
        simp
        by_cases hs : -4398046511104 ≤ S ∧ S ≤ 4398046511104
        · rw [if_neg (by omega), if_neg (by omega)]
        · rw [if_pos (by omega), if_pos (by omega)]
      have HE := Lib.hid e1
      clear e1
      go_enter Try.func15, Try.ntmps15
      go_wp2_with fail
      refine (gain24 _ _ _ _ _).mono ?_
      rintro r w1 ⟨rfl, hb1⟩
      have hg1 := chain (w := w) (by go_grown) hb1
      obtain ⟨hc1, hf1⟩ := bcell hb1
      have hz1 := hb1.size
      simp at hz1
      have q0 : w1.cell? ⟨w.heap.size, 0, none⟩ = some (.int .i64 S) := (hc1 _ _ (by simp; omega)).trans (by go_cell)
      have q1 : w1.cell? ⟨w.heap.size + 1, 0, none⟩ = some (.int .i64 P) := (hc1 _ _ (by simp)).trans (by go_cell)
      have q2 : w1.cell? ⟨w.heap.size + 1, 1, none⟩ = some (.int .i64 I) := (hc1 _ _ (by simp)).trans (by go_cell)
      have q3 : w1.cell? ⟨w.heap.size + 1, 2, none⟩ = some (.int .i64 L) := (hc1 _ _ (by simp)).trans (by go_cell)
      have q4 : w1.cell? ⟨w.heap.size + 1, 3, none⟩ = some (.int .i64 H) := (hc1 _ _ (by simp)).trans (by go_cell)
      have q5 : w1.cell? ⟨w.heap.size + 1 + 1, 0, none⟩ = some (.int .i64 0) := (hc1 _ _ (by simp)).trans (by go_cell)
      have f5 : w1.frozen? ⟨w.heap.size + 1 + 1, 0, none⟩ = false := (hf1 _ _ (by simp)).trans (by simp [go_sem])
      clear hc1 hf1 hb1
      go_wp2_with (go_at_call 20; refine (speedy20 _ _).mono ?_; rintro r w2 ⟨rfl, rfl⟩)
      by_cases hbad : ctlBad P I L H S (t - s) = 0
      · have e1 := HE.out.trans hbad
        have e2 : stS P I L H S t s = ctlS P I L H S (t - s) := by simp [stS, e1]
        have e3 : stU P I L H S t s = clamp (ctlU P S (t - s)) L H := by simp [stU, e1]
        refine (control25_ok _ _ _ _ _ _ _ hbad).mono ?_
        rintro r w2 ⟨rfl, hb2⟩
        have hg2 := chain (w := w) (by go_grown) hb2
        obtain ⟨hc2, hf2⟩ := bcell hb2
        have hz2 := hb2.size
        have q5' : w2.cell? ⟨w.heap.size + 1 + 1, 0, none⟩ = some (.int .i64 0) := (hc2 _ _ (by omega)).trans q5
        have f5' : w2.frozen? ⟨w.heap.size + 1 + 1, 0, none⟩ = false := (hf2 _ _ (by omega)).trans f5
        have hz : w.heap.size + 1 + 1 < w2.heap.size := by omega
        clear hc2 hf2 hb2 hbad
        have E1 := Lib.hid e1
        have E2 := Lib.hid e2
        have E3 := Lib.hid e3
        clear e1 e2 e3
        go_wp2
        refine bodyPost_ret (v := .tuple #[.agg #[.int .i64 _], .int .i64 _, .int .i64 _]) (by simp [results, Try.results15, go_sem, q5', hz]) rfl ⟨ret_aii E2.out.symm E3.out.symm E1.out.symm, ?_⟩
        go_grown
      · have e1 := HE.out
        have e2 : stS P I L H S t s = 0 := by simp [stS, e1, hbad]
        have e3 : stU P I L H S t s = 0 := by simp [stU, e1, hbad]
        refine (control25_bad _ _ _ _ _ _ _ hbad).mono ?_
        rintro r w2 ⟨rfl, hb2⟩
        have hg2 := chain (w := w) (by go_grown) hb2
        obtain ⟨hc2, hf2⟩ := bcell hb2
        have hz2 := hb2.size
        have q5' : w2.cell? ⟨w.heap.size + 1 + 1, 0, none⟩ = some (.int .i64 0) := (hc2 _ _ (by omega)).trans q5
        have f5' : w2.frozen? ⟨w.heap.size + 1 + 1, 0, none⟩ = false := (hf2 _ _ (by omega)).trans f5
        have hz : w.heap.size + 1 + 1 < w2.heap.size := by omega
        clear hc2 hf2 hb2 hbad
        have E1 := Lib.hid e1
        have E2 := Lib.hid e2
        have E3 := Lib.hid e3
        clear e1 e2 e3
        go_wp2
        refine bodyPost_ret (v := .tuple #[.agg #[.int .i64 _], .int .i64 _, .int .i64 _]) (by simp [results, Try.results15, go_sem, q5', hz]) rfl ⟨ret_aii E2.out.symm E3.out.symm E1.out.symm, ?_⟩
        go_grown
    all_goals
      have e1 : stE P I L H S t s = 2 := by simp [stE, hg, h1, h2]
      have e2 : stS P I L H S t s = 0 := by simp [stS, e1]
      have e3 : stU P I L H S t s = 0 := by simp [stU, e1]
      rw [e1, e2, e3]; clear e1 e2 e3
      go_enter Try.func15, Try.ntmps15
      go_wp2_with fail
      refine (gain24 _ _ _ _ _).mono ?_
      rintro r w1 ⟨rfl, hb1⟩
      have hg1 := chain (w := w) (by go_grown) hb1
      obtain ⟨hc1, hf1⟩ := bcell hb1
      have hz1 := hb1.size
      simp at hz1
      have q5 : w1.cell? ⟨w.heap.size + 1 + 1, 0, none⟩ = some (.int .i64 0) := (hc1 _ _ (by simp)).trans (by go_cell)
      have f5 : w1.frozen? ⟨w.heap.size + 1 + 1, 0, none⟩ = false := (hf1 _ _ (by simp)).trans (by simp [go_sem])
      have hz : w.heap.size + 1 + 1 < w1.heap.size := by omega
      clear hc1 hf1 hb1
      go_wp2_with (go_at_call 20; refine (speedy20 _ _).mono ?_; rintro r w2 ⟨rfl, rfl⟩)
      refine bodyPost_ret (v := .tuple #[.agg #[.int .i64 _], .int .i64 _, .int .i64 _]) (by simp [results, Try.results15, go_sem, q5, hz]) rfl ⟨ret_aii rfl rfl rfl, ?_⟩
      go_grown
theorem step16 (P I L H S t s : Int) (w : World) : Calls Try.prog 16 #[.agg #[.int .i64 S], .agg #[.int .i64 P, .int .i64 I, .int .i64 L, .int .i64 H], .int .i64 t, .int .i64 s] w fun r w' => r = .returned (.tuple #[.agg #[.int .i64 (stS P I L H S t s)], .int .i64 (stU P I L H S t s), .int .i64 (stE P I L H S t s)]) ∧ Below w.heap.size w w' := by
  have key : (gainB P I L H = false ∧ stE P I L H S t s = 1) ∨ (gainB P I L H = true ∧ spd t = false ∧ stE P I L H S t s = 2) ∨ (gainB P I L H = true ∧ spd t = true ∧ spd s = false ∧ stE P I L H S t s = 2) ∨ (gainB P I L H = true ∧ spd t = true ∧ spd s = true ∧ sumB S = false ∧ stE P I L H S t s = 1) ∨ (gainB P I L H = true ∧ spd t = true ∧ spd s = true ∧ sumB S = true ∧ stE P I L H S t s = 0) := by
    unfold stE
    cases gainB P I L H <;> cases spd t <;> cases spd s <;> cases sumB S <;> simp
  rcases key with ⟨h1, e1⟩ | ⟨h1, h2, e1⟩ | ⟨h1, h2, h3, e1⟩ | ⟨h1, h2, h3, h4, e1⟩ | ⟨h1, h2, h3, h4, e1⟩
  case inr.inr.inr.inr =>
    have e2 : stS P I L H S t s = ctlS P I L H S (t - s) := by simp [stS, e1]
    have e3 : stU P I L H S t s = clamp (ctlU P S (t - s)) L H := by simp [stU, e1]
    rw [e1, e2, e3]; clear e1 e2 e3
    obtain ⟨t0, t1⟩ := spd_bd h2
    obtain ⟨s0, s1⟩ := spd_bd h3
    obtain ⟨x0, x1⟩ := sum_bd h4
    have HC := Lib.hid (fun w => control28 P I L H S (t - s) w h1 x0 x1 (by omega) (by omega))
    obtain ⟨X, hX⟩ : ∃ X, X = ctlS P I L H S (t - s) := ⟨_, rfl⟩
    obtain ⟨Y, hY⟩ : ∃ Y, Y = clamp (ctlU P S (t - s)) L H := ⟨_, rfl⟩
    rw [← hX, ← hY] at HC ⊢
    clear hX hY
    go_enter Try.func16, Try.ntmps16
    go_wp2_with fail
    refine (gain26 _ _ _ _ _).mono ?_
    rintro r w1 ⟨rfl, hb1⟩
    have hg1 := chain (w := w) (by go_grown) hb1
    obtain ⟨hc1, hf1⟩ := bcell hb1
    have hz1 := hb1.size
    simp at hz1
    have q0 : w1.cell? ⟨w.heap.size, 0, none⟩ = some (.int .i64 S) := (hc1 _ _ (by simp; omega)).trans (by go_cell)
    have q1 : w1.cell? ⟨w.heap.size + 1, 0, none⟩ = some (.int .i64 P) := (hc1 _ _ (by simp)).trans (by go_cell)
    have q2 : w1.cell? ⟨w.heap.size + 1, 1, none⟩ = some (.int .i64 I) := (hc1 _ _ (by simp)).trans (by go_cell)
    have q3 : w1.cell? ⟨w.heap.size + 1, 2, none⟩ = some (.int .i64 L) := (hc1 _ _ (by simp)).trans (by go_cell)
    have q4 : w1.cell? ⟨w.heap.size + 1, 3, none⟩ = some (.int .i64 H) := (hc1 _ _ (by simp)).trans (by go_cell)
    have q5 : w1.cell? ⟨w.heap.size + 1 + 1, 0, none⟩ = some (.int .i64 0) := (hc1 _ _ (by simp)).trans (by go_cell)
    have f5 : w1.frozen? ⟨w.heap.size + 1 + 1, 0, none⟩ = false := (hf1 _ _ (by simp)).trans (by simp [go_sem])
    clear hc1 hf1 hb1
    go_wp2_with (first
      | (go_at_call 22; refine (speedy22 _ _).mono ?_; rintro r w2 ⟨rfl, rfl⟩)
      | fail)
    refine (integral27 _ _).mono ?_
    rintro r w2 ⟨rfl, hb2⟩
    have hg2 := chain (w := w) hg1 hb2
    obtain ⟨hc2, hf2⟩ := bcell hb2
    have hz2 := hb2.size
    have u0 := (hc2 _ _ (by omega)).trans q0
    have u1 := (hc2 _ _ (by omega)).trans q1
    have u2 := (hc2 _ _ (by omega)).trans q2
    have u3 := (hc2 _ _ (by omega)).trans q3
    have u4 := (hc2 _ _ (by omega)).trans q4
    have u5 := (hc2 _ _ (by omega)).trans q5
    have v5 := (hf2 _ _ (by omega)).trans f5
    clear hc2 hf2 hb2 q0 q1 q2 q3 q4 q5 f5
    go_wp2_with fail
    refine (HC.out _).mono ?_
    rintro r w3 ⟨rfl, hb3⟩
    have hg3 := chain (w := w) hg2 hb3
    obtain ⟨hc3, hf3⟩ := bcell hb3
    have hz3 := hb3.size
    have q5 := (hc3 _ _ (by omega)).trans u5
    have f5 := (hf3 _ _ (by omega)).trans v5
    have hz : w.heap.size + 1 + 1 < w3.heap.size := by omega
    clear hc3 hf3 hb3 u0 u1 u2 u3 u4 u5 v5
    go_wp2
    refine bodyPost_ret (v := .tuple #[.agg #[.int .i64 _], .int .i64 _, .int .i64 _]) (by simp [results, Try.results16, go_sem, q5, hz] <;> first | rfl | exact ⟨rfl, rfl⟩) rfl ⟨ret_aii rfl rfl rfl, ?_⟩
    go_grown
  all_goals
    have e2 : stS P I L H S t s = 0 := by simp [stS, e1]
    have e3 : stU P I L H S t s = 0 := by simp [stU, e1]
    rw [e1, e2, e3]; clear e1 e2 e3
    go_enter Try.func16, Try.ntmps16
    go_wp2_with fail
    refine (gain26 _ _ _ _ _).mono ?_
    rintro r w1 ⟨rfl, hb1⟩
    have hg1 := chain (w := w) (by go_grown) hb1
    obtain ⟨hc1, hf1⟩ := bcell hb1
    have hz1 := hb1.size
    simp at hz1
    have q0 : w1.cell? ⟨w.heap.size, 0, none⟩ = some (.int .i64 S) := (hc1 _ _ (by simp; omega)).trans (by go_cell)
    have q5 : w1.cell? ⟨w.heap.size + 1 + 1, 0, none⟩ = some (.int .i64 0) := (hc1 _ _ (by simp)).trans (by go_cell)
    have f5 : w1.frozen? ⟨w.heap.size + 1 + 1, 0, none⟩ = false := (hf1 _ _ (by simp)).trans (by simp [go_sem])
    have hz : w.heap.size + 1 + 1 < w1.heap.size := by omega
    clear hc1 hf1 hb1
    go_wp2_with (first
      | (go_at_call 22; refine (speedy22 _ _).mono ?_; rintro r w2 ⟨rfl, rfl⟩)
      | fail)
    first
    | (refine bodyPost_ret (v := .tuple #[.agg #[.int .i64 _], .int .i64 _, .int .i64 _]) (by simp [results, Try.results16, go_sem, q5, hz] <;> first | rfl | exact ⟨rfl, rfl⟩) rfl ⟨ret_aii rfl rfl rfl, ?_⟩
       go_grown
       done)
    | (refine (integral27 _ _).mono ?_
       rintro r w2 ⟨rfl, hb2⟩
       have hg2 := chain (w := w) hg1 hb2
       obtain ⟨hc2, hf2⟩ := bcell hb2
       have hz2 := hb2.size
       have u5 := (hc2 _ _ (by omega)).trans q5
       have v5 := (hf2 _ _ (by omega)).trans f5
       have hz : w.heap.size + 1 + 1 < w2.heap.size := by omega
       clear hc2 hf2 hb2 q0 q5 f5
       go_wp2
       refine bodyPost_ret (v := .tuple #[.agg #[.int .i64 _], .int .i64 _, .int .i64 _]) (by simp [results, Try.results16, go_sem, u5, hz] <;> first | rfl | exact ⟨rfl, rfl⟩) rfl ⟨ret_aii rfl rfl rfl, ?_⟩
       go_grown)
end Go.Proofs.Ytafeblmddhlcaaa
