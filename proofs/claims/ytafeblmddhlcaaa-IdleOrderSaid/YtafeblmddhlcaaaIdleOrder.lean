/-
  Proved: the statement IdleOrder of the program's layer idle holds: for every input the law returns true and its arguments read as before. No condition.
-/
import Derived.Test.YtafeblmddhlcaaaOrder
import Derived.Test.YtafeblmddhlcaaaOpen
set_option linter.unusedVariables false
namespace Go.Proofs.Ytafeblmddhlcaaa.idleOrder
open Go.ChangeShapes Go.WideShapes Go.ChangeAt Go.RowKit
set_option maxRecDepth 100000 in
theorem lifted (os : Os) (started : os.Started) (H : Type) (enc : TypeId × Value → H) :
    ReturnsInHanded {} Try.checked os 5 .any (Rows.idleOrderSpec.pre6 enc Try.prog Try.f5 Rows.idleOrderRow.domain false) (Rows.idleOrderSpec.post enc Try.prog Try.f5 false true false false) := by
  refine returnsInHanded_of_change (C := Try.checked) ownKnobNone started (by kernel_rfl) Try.func5
    (ChangeSpec.witness6 (enc := enc) (C := Try.checked) false ⟨#[], #[.agg #[.int .i64 0], .agg #[.int .i64 0, .int .i64 0, .int .i64 0, .int .i64 0], .int .i64 0, .int .i64 0, .int .i64 0, .int .i64 0, .int .i64 0], []⟩ 8 (by kernel_rfl) (by kernel_rfl) (by kernel_rfl) (by kernel_rfl)) ?_
  intro W base args ds gs before hval0 hW hcnd _
  have hval : ∀ (j : Nat) t v, Try.f5.params[j]? = some t → args[j]? = some v → Value.okWide Try.prog W .any base t v := hval0
  have hW' := hW
  obtain ⟨p, q, hA0, hV, rfl, hfz, hnd⟩ := hW
  have hA : DataW.TrodAll enc Try.prog W 0 (fun _ => true) true Try.f5.params.toList args.toList ds p := hA0
  rw [Try.params5] at hA hval
  obtain ⟨v0, vs0, d0, ds0, p0, q0, hargs, rfl, rfl, h0, r0⟩ := trodAll_cons hA
  obtain ⟨v1, vs1, d1, ds1, p1, q1, rfl, rfl, rfl, h1, r1⟩ := trodAll_cons r0
  obtain ⟨v2, vs2, d2, ds2, p2, q2, rfl, rfl, rfl, h2, r2⟩ := trodAll_cons r1
  obtain ⟨v3, vs3, d3, ds3, p3, q3, rfl, rfl, rfl, h3, r3⟩ := trodAll_cons r2
  obtain ⟨v4, vs4, d4, ds4, p4, q4, rfl, rfl, rfl, h4, r4⟩ := trodAll_cons r3
  obtain ⟨v5, vs5, d5, ds5, p5, q5, rfl, rfl, rfl, h5, r5⟩ := trodAll_cons r4
  obtain ⟨v6, vs6, d6, ds6, p6, q6, rfl, rfl, rfl, h6, r6⟩ := trodAll_cons r5
  obtain ⟨rfl, rfl, rfl⟩ := trodAll_nil r6
  obtain rfl : args = #[v0, v1, v2, v3, v4, v5, v6] := by cases args; simp_all
  clear hA0 hval0
  have post : ∀ W', Below W.heap.size W W' → Rows.idleOrderSpec.post enc Try.prog Try.f5 false true false false W #[v0, v1, v2, v3, v4, v5, v6] (.bool true) W' := fun W' hb =>
    post_true laidOut rfl (by kernel_rfl) rfl Try.underlying4 ⟨rfl, rfl, rfl⟩ hW' hb
  obtain ⟨cs0, rfl, hl0, hf0⟩ := open_agg Try.underlying32 (by kernel_rfl) (by kernel_rfl) (hval 0 32 v0 rfl rfl) h0
  obtain ⟨x0_0, e0_0, w0_0⟩ := field_int hf0 0 rfl Try.underlying3
  obtain rfl : cs0 = [.int .i64 x0_0] := list_of1 hl0 e0_0
  obtain ⟨cs1, rfl, hl1, hf1⟩ := open_agg Try.underlying34 (by kernel_rfl) (by kernel_rfl) (hval 1 34 v1 rfl rfl) h1
  obtain ⟨x1_0, e1_0, w1_0⟩ := field_int hf1 0 rfl Try.underlying3
  obtain ⟨x1_1, e1_1, w1_1⟩ := field_int hf1 1 rfl Try.underlying3
  obtain ⟨x1_2, e1_2, w1_2⟩ := field_int hf1 2 rfl Try.underlying3
  obtain ⟨x1_3, e1_3, w1_3⟩ := field_int hf1 3 rfl Try.underlying3
  obtain rfl : cs1 = [.int .i64 x1_0, .int .i64 x1_1, .int .i64 x1_2, .int .i64 x1_3] := list_of4 hl1 e1_0 e1_1 e1_2 e1_3
  obtain ⟨a2, rfl, _, _, w2⟩ := open_int Try.underlying3 (hval 2 3 v2 rfl rfl) h2
  obtain ⟨a3, rfl, _, _, w3⟩ := open_int Try.underlying3 (hval 3 3 v3 rfl rfl) h3
  obtain ⟨a4, rfl, _, _, w4⟩ := open_int Try.underlying3 (hval 4 3 v4 rfl rfl) h4
  obtain ⟨a5, rfl, _, _, w5⟩ := open_int Try.underlying3 (hval 5 3 v5 rfl rfl) h5
  obtain ⟨a6, rfl, _, _, w6⟩ := open_int Try.underlying3 (hval 6 3 v6 rfl rfl) h6
  rcases Int.lt_trichotomy a3 a4 with hab | hab | hab
  · exact (core x1_0 x1_1 x1_2 x1_3 x0_0 a2 a3 a4 a3 a4 a5 a6 W (by omega) (.inl ⟨hab, rfl, rfl⟩)).mono fun e W' ⟨he, hb⟩ => ⟨_, he, post W' hb⟩
  · exact (core x1_0 x1_1 x1_2 x1_3 x0_0 a2 a4 a4 a3 a4 a5 a6 W (by omega) (.inr (.inr ⟨hab, rfl, rfl⟩))).mono fun e W' ⟨he, hb⟩ => ⟨_, he, post W' hb⟩
  · exact (core x1_0 x1_1 x1_2 x1_3 x0_0 a2 a4 a3 a3 a4 a5 a6 W (by omega) (.inr (.inl ⟨hab, rfl, rfl⟩))).mono fun e W' ⟨he, hb⟩ => ⟨_, he, post W' hb⟩
theorem proved : Rows.IdleOrderSaid :=
  OpenClaim.holds_of_wide 5 Try.f5 rfl rfl rfl rfl rfl rfl rfl ⟨rfl, rfl, rfl, rfl, rfl⟩ rfl rfl rfl rfl rfl (by kernel_rfl) Try.func5 (by kernel_rfl)
    (of_decide_eq_true (by kernel_rfl)) (by unfold Func.isWrapper; first | (rw [if_pos (by decide +kernel)]; kernel_rfl) | (rw [if_neg (by decide +kernel)]; exact ⟨rfl, rfl⟩))
    (fun os started H enc _ => lifted os started H enc)
#print axioms proved
end Go.Proofs.Ytafeblmddhlcaaa.idleOrder
