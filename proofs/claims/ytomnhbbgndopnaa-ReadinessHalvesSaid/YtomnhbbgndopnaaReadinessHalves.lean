/-
  Proved: the statement ReadinessHalves of the program's layer readiness holds: for every input the law returns true and its argument reads as before. No condition.
-/
import Derived.Test.YtomnhbbgndopnaaCode
import Derived.Test.YtomnhbbgndopnaaOpen
set_option linter.unusedVariables false
namespace Go.Proofs.Ytomnhbbgndopnaa.readinessHalves
open Go.ChangeShapes Go.WideShapes Go.ChangeAt Go.RowKit
theorem core_bad (D R : Bool) (N M : Int) (w : World) (hv : vld D R N M = false) : Calls Try.prog 4 #[.agg #[.bool D, .bool R, .int .i64 N, .int .i64 M]] w fun r w' => r = .returned (.bool true) ∧ Below w.heap.size w w' := by
  go_enter Try.func4, Try.ntmps4
  go_wp2_with fail
  refine (awake7 _).mono ?_
  rintro r w1 ⟨rfl, hb1⟩
  have hg1 := chain (w := w) (by go_grown) hb1
  have hc1 := (bcell hb1).1
  have sz1 := hb1.size
  simp at sz1
  have p0 : w1.cell? ⟨w.heap.size, 0, none⟩ = some (.bool D) := (hc1 _ _ (by simp)).trans (by go_cell)
  have p1 : w1.cell? ⟨w.heap.size, 1, none⟩ = some (.bool R) := (hc1 _ _ (by simp)).trans (by go_cell)
  have p2 : w1.cell? ⟨w.heap.size, 2, none⟩ = some (.int .i64 N) := (hc1 _ _ (by simp)).trans (by go_cell)
  have p3 : w1.cell? ⟨w.heap.size, 3, none⟩ = some (.int .i64 M) := (hc1 _ _ (by simp)).trans (by go_cell)
  clear hc1 hb1
  go_wp2_with fail
  refine (valid10 _ _ _ _ _).mono ?_
  rintro r w2 ⟨rfl, hb2⟩
  have hg2 := chain (w := w) (by go_grown) hb2
  rw [hv]
  go_wp2
  go_ret
  exact ⟨rfl, hg2⟩
set_option maxHeartbeats 1000000 in
theorem core_ok (D R : Bool) (N M : Int) (w : World) (hv : vld D R N M = true) (N' M' X Y : Int)
    (hS : (R = true ∧ N' = N ∧ M' = M) ∨ (R = false ∧ N = 65535 ∧ N' = 32768 ∧ M' = M / 2) ∨ (R = false ∧ N < 65535 ∧ N' = N + 1 ∧ M' = M))
    (hC : (M = 65535 ∧ X = N / 2 ∧ Y = 32768) ∨ (M < 65535 ∧ X = N ∧ Y = M + 1)) :
    Calls Try.prog 4 #[.agg #[.bool D, .bool R, .int .i64 N, .int .i64 M]] w fun r w' => r = .returned (.bool true) ∧ Below w.heap.size w w' := by
  obtain ⟨n0, n1, m0, m1⟩ := vld_bd hv
  have A : ∀ w, Calls Try.prog 8 #[.agg #[.bool D, .bool R, .int .i64 N, .int .i64 M], .bool true, .bool true] w fun r w' => r = .returned (.tuple #[.agg #[.bool true, .bool true, .int .i64 N', .int .i64 M'], .int .i64 0]) ∧ Below w.heap.size w w' := fun w => by
    rcases hS with ⟨h, rfl, rfl⟩ | ⟨h, h2, rfl, rfl⟩ | ⟨h, h2, rfl, rfl⟩
    · exact step8 D R true true _ _ w true true _ _ 0 (.inr (.inr (.inr (.inl ⟨hv, rfl, rfl, h, rfl, rfl, rfl, rfl, rfl⟩))))
    · exact step8 D R true true _ _ w true true _ _ 0 (.inr (.inr (.inr (.inr ⟨hv, rfl, rfl, h, rfl, rfl, by simp [cntN, h2], by simp [cntM, h2], rfl⟩))))
    · exact step8 D R true true _ _ w true true _ _ 0 (.inr (.inr (.inr (.inr ⟨hv, rfl, rfl, h, rfl, rfl, by unfold cntN; rw [if_neg (by omega)], by unfold cntM; rw [if_neg (by omega)], rfl⟩))))
  have B : ∀ w, Calls Try.prog 9 #[.agg #[.bool D, .bool R, .int .i64 N, .int .i64 M], .bool true] w fun r w' => r = .returned (.tuple #[.agg #[.bool D, .bool false, .int .i64 X, .int .i64 Y], .int .i64 0]) ∧ Below w.heap.size w w' := fun w => by
    refine cycle9 D R true _ _ w D false _ _ 0 (.inr (.inr ⟨hv, rfl, rfl, rfl, ?_, ?_, rfl⟩))
    · unfold cycN; rcases hC with ⟨h, rfl, rfl⟩ | ⟨h, rfl, rfl⟩
      · rw [if_pos h]
      · rw [if_neg (by omega)]
    · unfold cycM; rcases hC with ⟨h, rfl, rfl⟩ | ⟨h, rfl, rfl⟩
      · rw [if_pos h]
      · rw [if_neg (by omega)]
  have HA := Lib.hid A
  have HB := Lib.hid B
  have HV := Lib.hid hv
  clear A B hv
  go_enter Try.func4, Try.ntmps4
  go_wp2_with fail
  refine (awake7 _).mono ?_
  rintro r w1 ⟨rfl, hb1⟩
  have hg1 := chain (w := w) (by go_grown) hb1
  have hc1 := (bcell hb1).1
  have sz1 := hb1.size
  simp at sz1
  have p0 : w1.cell? ⟨w.heap.size, 0, none⟩ = some (.bool D) := (hc1 _ _ (by simp)).trans (by go_cell)
  have p1 : w1.cell? ⟨w.heap.size, 1, none⟩ = some (.bool R) := (hc1 _ _ (by simp)).trans (by go_cell)
  have p2 : w1.cell? ⟨w.heap.size, 2, none⟩ = some (.int .i64 N) := (hc1 _ _ (by simp)).trans (by go_cell)
  have p3 : w1.cell? ⟨w.heap.size, 3, none⟩ = some (.int .i64 M) := (hc1 _ _ (by simp)).trans (by go_cell)
  clear hc1 hb1
  go_wp2_with fail
  refine (valid10 _ _ _ _ _).mono ?_
  rintro r w2 ⟨rfl, hb2⟩
  rw [HV.out]
  have hg2 := chain (w := w) (by go_grown) hb2
  have hc2 := (bcell hb2).1
  have sz2 := hb2.size
  have p0 := (hc2 _ _ (by omega)).trans p0
  have p1 := (hc2 _ _ (by omega)).trans p1
  have p2 := (hc2 _ _ (by omega)).trans p2
  have p3 := (hc2 _ _ (by omega)).trans p3
  clear hc2 hb2
  go_wp2_with fail
  refine (HA.out _).mono ?_
  rintro r w3 ⟨rfl, hb3⟩
  have hg3 := chain (w := w) (by go_grown) hb3
  have hc3 := (bcell hb3).1
  have sz3 := hb3.size
  have p0 := (hc3 _ _ (by omega)).trans p0
  have p1 := (hc3 _ _ (by omega)).trans p1
  have p2 := (hc3 _ _ (by omega)).trans p2
  have p3 := (hc3 _ _ (by omega)).trans p3
  have z3 : w.heap.size < w3.heap.size := by omega
  clear hc3 hb3
  go_wp2_with fail
  refine (HB.out _).mono ?_
  rintro r w4 ⟨rfl, hb4⟩
  have hg4 := chain (w := w) (by go_grown) hb4
  have hc4 := (bcell hb4).1
  have sz4 := hb4.size
  simp at sz4
  have q0 : w4.cell? ⟨w.heap.size, 0, none⟩ = some (.bool D) := (hc4 _ _ (by simp; omega)).trans (by go_cell)
  have q1 : w4.cell? ⟨w.heap.size, 1, none⟩ = some (.bool R) := (hc4 _ _ (by simp; omega)).trans (by go_cell)
  have q2 : w4.cell? ⟨w.heap.size, 2, none⟩ = some (.int .i64 N) := (hc4 _ _ (by simp; omega)).trans (by go_cell)
  have q3 : w4.cell? ⟨w.heap.size, 3, none⟩ = some (.int .i64 M) := (hc4 _ _ (by simp; omega)).trans (by go_cell)
  have u2 : w4.cell? ⟨w3.heap.size, 2, none⟩ = some (.int .i64 N') := (hc4 _ _ (by simp)).trans (by go_cell)
  have u3 : w4.cell? ⟨w3.heap.size, 3, none⟩ = some (.int .i64 M') := (hc4 _ _ (by simp)).trans (by go_cell)
  have z4 : w3.heap.size < w4.heap.size := by omega
  have z5 : w.heap.size < w4.heap.size := by omega
  clear hc4 hb4 p0 p1 p2 p3 HA HB HV
  rcases hS with ⟨rfl, rfl, rfl⟩ | ⟨rfl, rfl, rfl, rfl⟩ | ⟨rfl, h2, rfl, rfl⟩ <;> rcases hC with ⟨rfl, rfl, rfl⟩ | ⟨h3, rfl, rfl⟩
  all_goals
    go_wp2
  all_goals (go_ret; exact ⟨rfl, by go_grown⟩)
set_option maxRecDepth 100000 in
theorem lifted (os : Os) (started : os.Started) (H : Type) (enc : TypeId × Value → H) :
    ReturnsInHanded {} Try.checked os 4 .any (Rows.readinessHalvesSpec.pre6 enc Try.prog Try.f4 Rows.readinessHalvesRow.domain false) (Rows.readinessHalvesSpec.post enc Try.prog Try.f4 false true false false) := by
  refine returnsInHanded_of_change (C := Try.checked) ownKnobNone started (by kernel_rfl) Try.func4
    (ChangeSpec.witness6 (enc := enc) (C := Try.checked) false ⟨#[], #[.agg #[.bool false, .bool false, .int .i64 0, .int .i64 0]], []⟩ 8 (by kernel_rfl) (by kernel_rfl) (by kernel_rfl) (by kernel_rfl)) ?_
  intro W base args ds gs before hval0 hW hcnd _
  have hval : ∀ (j : Nat) t v, Try.f4.params[j]? = some t → args[j]? = some v → Value.okWide Try.prog W .any base t v := hval0
  have hW' := hW
  obtain ⟨p, q, hA0, hV, rfl, hfz, hnd⟩ := hW
  have hA : DataW.TrodAll enc Try.prog W 0 (fun _ => true) true Try.f4.params.toList args.toList ds p := hA0
  rw [Try.params4] at hA hval
  obtain ⟨v0, vs0, d0, ds0, p0, q0, hargs, rfl, rfl, h0, r0⟩ := trodAll_cons hA
  obtain ⟨rfl, rfl, rfl⟩ := trodAll_nil r0
  obtain rfl : args = #[v0] := by cases args; simp_all
  clear hA0 hval0
  have post : ∀ W', Below W.heap.size W W' → Rows.readinessHalvesSpec.post enc Try.prog Try.f4 false true false false W #[v0] (.bool true) W' := fun W' hb =>
    post_true laidOut rfl (by kernel_rfl) rfl Try.underlying4 ⟨rfl, rfl, rfl⟩ hW' hb
  obtain ⟨cs0, rfl, hl0, hf0⟩ := open_agg Try.underlying26 (by kernel_rfl) (by kernel_rfl) (hval 0 26 v0 rfl rfl) h0
  obtain ⟨x0_0, e0_0⟩ := field_bool hf0 0 rfl Try.underlying4
  obtain ⟨x0_1, e0_1⟩ := field_bool hf0 1 rfl Try.underlying4
  obtain ⟨x0_2, e0_2, w0_2⟩ := field_int hf0 2 rfl Try.underlying3
  obtain ⟨x0_3, e0_3, w0_3⟩ := field_int hf0 3 rfl Try.underlying3
  obtain rfl : cs0 = [.bool x0_0, .bool x0_1, .int .i64 x0_2, .int .i64 x0_3] := list_of4 hl0 e0_0 e0_1 e0_2 e0_3
  cases hv : vld x0_0 x0_1 x0_2 x0_3
  · exact (core_bad x0_0 x0_1 x0_2 x0_3 W hv).mono fun e W' ⟨he, hb⟩ => ⟨_, he, post W' hb⟩
  · obtain ⟨n0, n1, m0, m1⟩ := vld_bd hv
    have hS : ∃ N' M', (x0_1 = true ∧ N' = x0_2 ∧ M' = x0_3) ∨ (x0_1 = false ∧ x0_2 = 65535 ∧ N' = 32768 ∧ M' = x0_3 / 2) ∨ (x0_1 = false ∧ x0_2 < 65535 ∧ N' = x0_2 + 1 ∧ M' = x0_3) := by
      cases x0_1
      · by_cases h : x0_2 = 65535
        · exact ⟨_, _, .inr (.inl ⟨rfl, h, rfl, rfl⟩)⟩
        · exact ⟨_, _, .inr (.inr ⟨rfl, by omega, rfl, rfl⟩)⟩
      · exact ⟨_, _, .inl ⟨rfl, rfl, rfl⟩⟩
    have hC : ∃ X Y, (x0_3 = 65535 ∧ X = x0_2 / 2 ∧ Y = 32768) ∨ (x0_3 < 65535 ∧ X = x0_2 ∧ Y = x0_3 + 1) := by
      by_cases h : x0_3 = 65535
      · exact ⟨_, _, .inl ⟨h, rfl, rfl⟩⟩
      · exact ⟨_, _, .inr ⟨by omega, rfl, rfl⟩⟩
    obtain ⟨N', M', hS⟩ := hS
    obtain ⟨X, Y, hC⟩ := hC
    exact (core_ok x0_0 x0_1 x0_2 x0_3 W hv N' M' X Y hS hC).mono fun e W' ⟨he, hb⟩ => ⟨_, he, post W' hb⟩
theorem proved : Rows.ReadinessHalvesSaid :=
  OpenClaim.holds_of_wide 4 Try.f4 rfl rfl rfl rfl rfl rfl rfl ⟨rfl, rfl, rfl, rfl, rfl⟩ rfl rfl rfl rfl rfl (by kernel_rfl) Try.func4 (by kernel_rfl)
    (of_decide_eq_true (by kernel_rfl)) (by unfold Func.isWrapper; first | (rw [if_pos (by decide +kernel)]; kernel_rfl) | (rw [if_neg (by decide +kernel)]; exact ⟨rfl, rfl⟩))
    (fun os started H enc _ => lifted os started H enc)
#print axioms proved
end Go.Proofs.Ytomnhbbgndopnaa.readinessHalves
