/-
  Proved: the statement IdleSteps of the program's layer idle holds: for every input the law returns true and its arguments read as before. No condition.
-/
import Derived.Test.YtafeblmddhlcaaaStep
import Derived.Test.YtafeblmddhlcaaaOpen
set_option linter.unusedVariables false
namespace Go.Proofs.Ytafeblmddhlcaaa.idleSteps
open Go.ChangeShapes Go.WideShapes Go.ChangeAt Go.RowKit
theorem core (P I L H S t s : Int) (w : World) : Calls Try.prog 4 #[.agg #[.int .i64 S], .agg #[.int .i64 P, .int .i64 I, .int .i64 L, .int .i64 H], .int .i64 t, .int .i64 s] w fun r w' => r = .returned (.bool true) ∧ Below w.heap.size w w' := by
  have A := Lib.hid (fun w => step15 P I L H S t s w)
  have B := Lib.hid (fun w => step16 P I L H S t s w)
  obtain ⟨X, hX⟩ : ∃ X, X = stS P I L H S t s := ⟨_, rfl⟩
  obtain ⟨Y, hY⟩ : ∃ Y, Y = stU P I L H S t s := ⟨_, rfl⟩
  obtain ⟨Z, hZ⟩ : ∃ Z, Z = stE P I L H S t s := ⟨_, rfl⟩
  rw [← hX, ← hY, ← hZ] at A B
  clear hX hY hZ
  go_enter Try.func4, Try.ntmps4
  go_wp2_with fail
  refine (awake8 _).mono ?_
  rintro r w1 ⟨rfl, rfl⟩
  go_wp2_with fail
  refine (A.out _).mono ?_
  rintro r w1 ⟨rfl, hb1⟩
  have hg1 := chain (w := w) (by go_grown) hb1
  obtain ⟨hc1, hf1⟩ := bcell hb1
  have hz1 := hb1.size
  simp at hz1
  have q0 : w1.cell? ⟨w.heap.size, 0, none⟩ = some (.int .i64 S) := (hc1 _ _ (by simp; omega)).trans (by go_cell)
  have q1 : w1.cell? ⟨w.heap.size + 1, 0, none⟩ = some (.int .i64 P) := (hc1 _ _ (by simp)).trans (by go_cell)
  have q2 : w1.cell? ⟨w.heap.size + 1, 1, none⟩ = some (.int .i64 I) := (hc1 _ _ (by simp)).trans (by go_cell)
  have q3 : w1.cell? ⟨w.heap.size + 1, 2, none⟩ = some (.int .i64 L) := (hc1 _ _ (by simp)).trans (by go_cell)
  have q4 : w1.cell? ⟨w.heap.size + 1, 3, none⟩ = some (.int .i64 H) := (hc1 _ _ (by simp)).trans (by go_cell)
  have z0 : w.heap.size < w1.heap.size := by omega
  have z1 : w.heap.size + 1 < w1.heap.size := by omega
  clear hc1 hf1 hb1
  go_wp2_with fail
  refine (B.out _).mono ?_
  rintro r w2 ⟨rfl, hb2⟩
  have hg2 := chain (w := w) (by go_grown) hb2
  obtain ⟨hc2, hf2⟩ := bcell hb2
  have hz2 := hb2.size
  simp at hz2
  have u0 : w2.cell? ⟨w1.heap.size, 0, none⟩ = some (.int .i64 X) := (hc2 _ _ (by simp)).trans (by go_cell)
  have z2 : w1.heap.size < w2.heap.size := by omega
  clear hc2 hf2 hb2
  go_wp2
  go_ret
  exact ⟨rfl, by go_grown⟩
set_option maxRecDepth 100000 in
theorem lifted (os : Os) (started : os.Started) (H : Type) (enc : TypeId × Value → H) :
    ReturnsInHanded {} Try.checked os 4 .any (Rows.idleStepsSpec.pre6 enc Try.prog Try.f4 Rows.idleStepsRow.domain false) (Rows.idleStepsSpec.post enc Try.prog Try.f4 false true false false) := by
  refine returnsInHanded_of_change (C := Try.checked) ownKnobNone started (by kernel_rfl) Try.func4
    (ChangeSpec.witness6 (enc := enc) (C := Try.checked) false ⟨#[], #[.agg #[.int .i64 0], .agg #[.int .i64 0, .int .i64 0, .int .i64 0, .int .i64 0], .int .i64 0, .int .i64 0], []⟩ 8 (by kernel_rfl) (by kernel_rfl) (by kernel_rfl) (by kernel_rfl)) ?_
  intro W base args ds gs before hval0 hW hcnd _
  have hval : ∀ (j : Nat) t v, Try.f4.params[j]? = some t → args[j]? = some v → Value.okWide Try.prog W .any base t v := hval0
  have hW' := hW
  obtain ⟨p, q, hA0, hV, rfl, hfz, hnd⟩ := hW
  have hA : DataW.TrodAll enc Try.prog W 0 (fun _ => true) true Try.f4.params.toList args.toList ds p := hA0
  rw [Try.params4] at hA hval
  obtain ⟨v0, vs0, d0, ds0, p0, q0, hargs, rfl, rfl, h0, r0⟩ := trodAll_cons hA
  obtain ⟨v1, vs1, d1, ds1, p1, q1, rfl, rfl, rfl, h1, r1⟩ := trodAll_cons r0
  obtain ⟨v2, vs2, d2, ds2, p2, q2, rfl, rfl, rfl, h2, r2⟩ := trodAll_cons r1
  obtain ⟨v3, vs3, d3, ds3, p3, q3, rfl, rfl, rfl, h3, r3⟩ := trodAll_cons r2
  obtain ⟨rfl, rfl, rfl⟩ := trodAll_nil r3
  obtain rfl : args = #[v0, v1, v2, v3] := by cases args; simp_all
  clear hA0 hval0
  have post : ∀ W', Below W.heap.size W W' → Rows.idleStepsSpec.post enc Try.prog Try.f4 false true false false W #[v0, v1, v2, v3] (.bool true) W' := fun W' hb =>
    post_true laidOut rfl (by kernel_rfl) rfl Try.underlying4 ⟨rfl, rfl, rfl⟩ hW' hb
  obtain ⟨cs0, rfl, hl0, hf0⟩ := open_agg Try.underlying32 (by kernel_rfl) (by kernel_rfl) (hval 0 32 v0 rfl rfl) h0
  obtain ⟨x0_0, e0_0, w0_0⟩ := field_int hf0 0 rfl Try.underlying3
  obtain rfl : cs0 = [.int .i64 x0_0] := list_of1 hl0 e0_0
  obtain ⟨cs1, rfl, hl1, hf1⟩ := open_agg Try.underlying34 (by kernel_rfl) (by kernel_rfl) (hval 1 34 v1 rfl rfl) h1
  obtain ⟨x1_0, e1_0, w1_0⟩ := field_int hf1 0 rfl Try.underlying3
  obtain ⟨x1_1, e1_1, w1_1⟩ := field_int hf1 1 rfl Try.underlying3
  obtain ⟨x1_2, e1_2, w1_2⟩ := field_int hf1 2 rfl Try.underlying3
  obtain ⟨x1_3, e1_3, w1_3⟩ := field_int hf1 3 rfl Try.underlying3
  obtain rfl : cs1 = [.int .i64 x1_0, .int .i64 x1_1, .int .i64 x1_2, .int .i64 x1_3] := list_of4 hl1 e1_0 e1_1 e1_2 e1_3
  obtain ⟨a2, rfl, _, _, w2⟩ := open_int Try.underlying3 (hval 2 3 v2 rfl rfl) h2
  obtain ⟨a3, rfl, _, _, w3⟩ := open_int Try.underlying3 (hval 3 3 v3 rfl rfl) h3
  exact (core x1_0 x1_1 x1_2 x1_3 x0_0 a2 a3 W).mono fun e W' ⟨he, hb⟩ => ⟨_, he, post W' hb⟩
theorem proved : Rows.IdleStepsSaid :=
  OpenClaim.holds_of_wide 4 Try.f4 rfl rfl rfl rfl rfl rfl rfl ⟨rfl, rfl, rfl, rfl, rfl⟩ rfl rfl rfl rfl rfl (by kernel_rfl) Try.func4 (by kernel_rfl)
    (of_decide_eq_true (by kernel_rfl)) (by unfold Func.isWrapper; first | (rw [if_pos (by decide +kernel)]; kernel_rfl) | (rw [if_neg (by decide +kernel)]; exact ⟨rfl, rfl⟩))
    (fun os started H enc _ => lifted os started H enc)
#print axioms proved
end Go.Proofs.Ytafeblmddhlcaaa.idleSteps
