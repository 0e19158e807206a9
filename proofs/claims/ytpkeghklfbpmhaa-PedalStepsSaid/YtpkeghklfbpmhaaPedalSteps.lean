/-
  Proved: the statement PedalSteps of the program's layer pedal holds: for every input the law returns true and its arguments read as before. No condition.
-/
import Derived.Test.YtpkeghklfbpmhaaRun
import Derived.Test.YtpkeghklfbpmhaaRef
import Derived.Test.YtpkeghklfbpmhaaOpen
set_option linter.unusedVariables false
namespace Go.Proofs.Ytpkeghklfbpmhaa.pedalSteps
open Go.ChangeShapes Go.WideShapes Go.ChangeAt Go.RowKit
/-- the cells that the law's last statements read, in a world of which little else is known -/
theorem keep {w W W2 : World} {g n : Nat} {V D V' D' : Int} {F F' : Bool}
    (h : W.cell? ⟨w.heap.size, 0, none⟩ = some (.int .i64 V) ∧ W.cell? ⟨w.heap.size, 1, none⟩ = some (.int .i64 D) ∧ W.cell? ⟨w.heap.size, 2, none⟩ = some (.bool F) ∧
      W.cell? ⟨g, 0, none⟩ = some (.int .i64 V') ∧ W.cell? ⟨g, 1, none⟩ = some (.int .i64 D') ∧ W.cell? ⟨g, 2, none⟩ = some (.bool F') ∧
      W.cell? ⟨n, 0, none⟩ = some (.int .i64 0) ∧ W.cell? ⟨n, 1, none⟩ = some (.int .i64 0) ∧ W.cell? ⟨n, 2, none⟩ = some (.bool false) ∧ Below w.heap.size w W ∧ w.heap.size < g ∧ g < n ∧ n < W.heap.size)
    (hb : Below W.heap.size W W2) :
    W2.cell? ⟨w.heap.size, 0, none⟩ = some (.int .i64 V) ∧ W2.cell? ⟨w.heap.size, 1, none⟩ = some (.int .i64 D) ∧ W2.cell? ⟨w.heap.size, 2, none⟩ = some (.bool F) ∧
      W2.cell? ⟨g, 0, none⟩ = some (.int .i64 V') ∧ W2.cell? ⟨g, 1, none⟩ = some (.int .i64 D') ∧ W2.cell? ⟨g, 2, none⟩ = some (.bool F') ∧
      W2.cell? ⟨n, 0, none⟩ = some (.int .i64 0) ∧ W2.cell? ⟨n, 1, none⟩ = some (.int .i64 0) ∧ W2.cell? ⟨n, 2, none⟩ = some (.bool false) ∧ Below w.heap.size w W2 ∧ w.heap.size < g ∧ g < n ∧ n < W2.heap.size := by
  obtain ⟨h0, h1, h2, h3, h4, h5, h6, h7, h8, h9, h10, h11, h12⟩ := h
  obtain ⟨hc, _⟩ := bcell hb
  have := hb.size
  exact ⟨(hc _ _ (by omega)).trans h0, (hc _ _ (by omega)).trans h1, (hc _ _ (by omega)).trans h2, (hc _ _ (by omega)).trans h3, (hc _ _ (by omega)).trans h4, (hc _ _ (by omega)).trans h5, (hc _ _ (by omega)).trans h6, (hc _ _ (by omega)).trans h7, (hc _ _ (by omega)).trans h8, chain h9 hb, h10, h11, by omega⟩
theorem core_bad (V D x y : Int) (F : Bool) (w : World) (hv : validB V D F = false) : Calls Try.prog 3 #[.agg #[.int .i64 V, .int .i64 D, .bool F], .int .i64 x, .int .i64 y] w fun e w' => e = .returned (.bool true) ∧ Below w.heap.size w w' := by
  go_enter Try.func3, Try.ntmps3
  go_wp2_with fail
  refine (awake6 _).mono ?_
  rintro r w1 ⟨rfl, hb1⟩
  have hg1 := chain (w := w) (by go_grown) hb1
  obtain ⟨hc1, hf1⟩ := bcell hb1
  have hz1 := hb1.size
  simp at hz1
  have p0 : w1.cell? ⟨w.heap.size, 0, none⟩ = some (.int .i64 V) := (hc1 _ _ (by simp)).trans (by go_cell)
  have p1 : w1.cell? ⟨w.heap.size, 1, none⟩ = some (.int .i64 D) := (hc1 _ _ (by simp)).trans (by go_cell)
  have p2 : w1.cell? ⟨w.heap.size, 2, none⟩ = some (.bool F) := (hc1 _ _ (by simp)).trans (by go_cell)
  clear hc1 hf1 hb1
  go_wp2_with fail
  refine (step7_bad _ _ _ _ _ _ hv).mono ?_
  rintro r w2 ⟨rfl, hb2⟩
  have hg2 := chain (w := w) (by go_grown) hb2
  obtain ⟨hc2, hf2⟩ := bcell hb2
  have hz2 := hb2.size
  have p0 := (hc2 _ _ (by omega)).trans p0
  have p1 := (hc2 _ _ (by omega)).trans p1
  have p2 := (hc2 _ _ (by omega)).trans p2
  have z1 : w.heap.size < w2.heap.size := by omega
  have z2 : w.heap.size < w2.heap.size + 1 := by omega
  clear hc2 hf2 hb2
  go_wp2_with fail
  go_region_held3 (fun W => W.cell? ⟨w.heap.size, 0, none⟩ = some (.int .i64 V) ∧ W.cell? ⟨w.heap.size, 1, none⟩ = some (.int .i64 D) ∧ W.cell? ⟨w.heap.size, 2, none⟩ = some (.bool F) ∧
      W.cell? ⟨w2.heap.size, 0, none⟩ = some (.int .i64 0) ∧ W.cell? ⟨w2.heap.size, 1, none⟩ = some (.int .i64 0) ∧ W.cell? ⟨w2.heap.size, 2, none⟩ = some (.bool false) ∧
      W.cell? ⟨w2.heap.size + 1, 0, none⟩ = some (.int .i64 0) ∧ W.cell? ⟨w2.heap.size + 1, 1, none⟩ = some (.int .i64 0) ∧ W.cell? ⟨w2.heap.size + 1, 2, none⟩ = some (.bool false) ∧ Below w.heap.size w W ∧ w.heap.size < w2.heap.size ∧ w2.heap.size < w2.heap.size + 1 ∧ w2.heap.size + 1 < W.heap.size)
    (first | exact keep (by assumption) (by assumption) | exact ⟨by go_cell, by go_cell, by go_cell, by go_cell, by go_cell, by go_cell, by go_cell, by go_cell, by go_cell, by go_grown, z1, by omega, by simp⟩)
    (first | (go_at_call 8; refine (new8 _).mono ?_; rintro r w3 ⟨rfl, hb3⟩) | (go_at_call 9; refine (valid9 _ _ _ _).mono ?_; rintro r w4 ⟨rfl, hb4⟩) | (go_at_call 10; refine (valid10 _ _ _ _).mono ?_; rintro r w5 ⟨rfl, hb5⟩))
  rename_i hh
  obtain ⟨h0, h1, h2, h3, h4, h5, h6, h7, h8, h9, h10, h11, h12⟩ := hh
  have hw : w.heap.size < w5.heap.size := by omega
  clear hb3 hb4 hb5 p0 p1 p2 hg1 hg2
  go_wp2_with fail
  refine (valid10 _ _ _ _).mono ?_
  rintro r w6 ⟨rfl, hb6⟩
  obtain ⟨h0, h1, h2, h3, h4, h5, h6, h7, h8, h9, h10, h11, h12⟩ := keep ⟨h0, h1, h2, h3, h4, h5, h6, h7, h8, h9, h10, h11, h12⟩ hb6
  clear hb6
  go_wp2
  go_ret
  exact ⟨rfl, h9⟩
theorem core_ok (V D x y : Int) (F : Bool) (w : World) (hv : validB V D F = true) : Calls Try.prog 3 #[.agg #[.int .i64 V, .int .i64 D, .bool F], .int .i64 x, .int .i64 y] w fun e w' => e = .returned (.bool true) ∧ Below w.heap.size w w' := by
  have hvn : validB (nxV V D x y) (nxD D x y) (nxD D x y == 3) = true := by
    have hF : F = (D == 3) := by
      have := valid_cases hv
      rcases this with ⟨rfl, rfl, _⟩ | ⟨rfl, rfl, _⟩ | ⟨rfl, rfl, _⟩ | ⟨rfl, rfl, _⟩ <;> rfl
    rw [hF] at hv
    exact valid_next V D x y hv
  have A := Lib.hid (fun w => step7_ok V D x y F w hv)
  have B := Lib.hid (fun w => step11 V D x y F w hv)
  obtain ⟨V', hV'⟩ : ∃ V', V' = nxV V D x y := ⟨_, rfl⟩
  obtain ⟨D', hD'⟩ : ∃ D', D' = nxD D x y := ⟨_, rfl⟩
  rw [← hV', ← hD'] at A B hvn
  obtain ⟨F', hF'⟩ : ∃ F', F' = (D' == 3) := ⟨_, rfl⟩
  rw [← hF'] at A B hvn
  clear hV' hD' hF'
  go_enter Try.func3, Try.ntmps3
  go_wp2_with fail
  refine (awake6 _).mono ?_
  rintro r w1 ⟨rfl, hb1⟩
  have hg1 := chain (w := w) (by go_grown) hb1
  obtain ⟨hc1, hf1⟩ := bcell hb1
  have hz1 := hb1.size
  simp at hz1
  have p0 : w1.cell? ⟨w.heap.size, 0, none⟩ = some (.int .i64 V) := (hc1 _ _ (by simp)).trans (by go_cell)
  have p1 : w1.cell? ⟨w.heap.size, 1, none⟩ = some (.int .i64 D) := (hc1 _ _ (by simp)).trans (by go_cell)
  have p2 : w1.cell? ⟨w.heap.size, 2, none⟩ = some (.bool F) := (hc1 _ _ (by simp)).trans (by go_cell)
  clear hc1 hf1 hb1
  go_wp2_with fail
  refine (A.out _).mono ?_
  rintro r w2 ⟨rfl, hb2⟩
  have hg2 := chain (w := w) (by go_grown) hb2
  obtain ⟨hc2, hf2⟩ := bcell hb2
  have hz2 := hb2.size
  have p0 := (hc2 _ _ (by omega)).trans p0
  have p1 := (hc2 _ _ (by omega)).trans p1
  have p2 := (hc2 _ _ (by omega)).trans p2
  have z1 : w.heap.size < w2.heap.size := by omega
  have z2 : w.heap.size < w2.heap.size + 1 := by omega
  clear hc2 hf2 hb2
  go_wp2_with fail
  go_region_held3 (fun W => W.cell? ⟨w.heap.size, 0, none⟩ = some (.int .i64 V) ∧ W.cell? ⟨w.heap.size, 1, none⟩ = some (.int .i64 D) ∧ W.cell? ⟨w.heap.size, 2, none⟩ = some (.bool F) ∧
      W.cell? ⟨w2.heap.size, 0, none⟩ = some (.int .i64 V') ∧ W.cell? ⟨w2.heap.size, 1, none⟩ = some (.int .i64 D') ∧ W.cell? ⟨w2.heap.size, 2, none⟩ = some (.bool F') ∧
      W.cell? ⟨w2.heap.size + 1, 0, none⟩ = some (.int .i64 0) ∧ W.cell? ⟨w2.heap.size + 1, 1, none⟩ = some (.int .i64 0) ∧ W.cell? ⟨w2.heap.size + 1, 2, none⟩ = some (.bool false) ∧ Below w.heap.size w W ∧ w.heap.size < w2.heap.size ∧ w2.heap.size < w2.heap.size + 1 ∧ w2.heap.size + 1 < W.heap.size)
    (first | exact keep (by assumption) (by assumption) | exact ⟨by go_cell, by go_cell, by go_cell, by go_cell, by go_cell, by go_cell, by go_cell, by go_cell, by go_cell, by go_grown, z1, by omega, by simp⟩)
    (first | (go_at_call 8; refine (new8 _).mono ?_; rintro r w3 ⟨rfl, hb3⟩) | (go_at_call 9; refine (valid9 _ _ _ _).mono ?_; rintro r w4 ⟨rfl, hb4⟩) | (go_at_call 10; refine (valid10 _ _ _ _).mono ?_; rintro r w5 ⟨rfl, hb5⟩))
  rename_i hh
  obtain ⟨h0, h1, h2, h3, h4, h5, h6, h7, h8, h9, h10, h11, h12⟩ := hh
  have hw : w.heap.size < w5.heap.size := by omega
  clear hb3 hb4 hb5 p0 p1 p2 hg1 hg2
  go_wp2_with fail
  refine (valid10 _ _ _ _).mono ?_
  rintro r w6 ⟨rfl, hb6⟩
  obtain ⟨h0, h1, h2, h3, h4, h5, h6, h7, h8, h9, h10, h11, h12⟩ := keep ⟨h0, h1, h2, h3, h4, h5, h6, h7, h8, h9, h10, h11, h12⟩ hb6
  clear hb6
  go_wp2_with fail
  go_region_held3 (fun W => W.cell? ⟨w.heap.size, 0, none⟩ = some (.int .i64 V) ∧ W.cell? ⟨w.heap.size, 1, none⟩ = some (.int .i64 D) ∧ W.cell? ⟨w.heap.size, 2, none⟩ = some (.bool F) ∧
      W.cell? ⟨w2.heap.size, 0, none⟩ = some (.int .i64 V') ∧ W.cell? ⟨w2.heap.size, 1, none⟩ = some (.int .i64 D') ∧ W.cell? ⟨w2.heap.size, 2, none⟩ = some (.bool F') ∧
      W.cell? ⟨w2.heap.size + 1, 0, none⟩ = some (.int .i64 0) ∧ W.cell? ⟨w2.heap.size + 1, 1, none⟩ = some (.int .i64 0) ∧ W.cell? ⟨w2.heap.size + 1, 2, none⟩ = some (.bool false) ∧ Below w.heap.size w W ∧ w.heap.size < w2.heap.size ∧ w2.heap.size < w2.heap.size + 1 ∧ w2.heap.size + 1 < W.heap.size)
    (first | exact keep (by assumption) (by assumption) | exact ⟨h0, h1, h2, h3, h4, h5, h6, h7, h8, h9.drew, h10, h11, h12⟩)
    (first | (go_at_call 11; refine (B.out _).mono ?_; rintro r w7 ⟨rfl, hb7⟩) | (go_at_call 9; refine (valid9 _ _ _ _).mono ?_; rintro r w8 ⟨rfl, hb8⟩))
  rename_i hh
  obtain ⟨h0, h1, h2, h3, h4, h5, h6, h7, h8, h9, h10, h11, h12⟩ := hh
  go_wp2
  go_ret
  exact ⟨rfl, h9⟩
set_option maxRecDepth 100000 in
theorem lifted (os : Os) (started : os.Started) (H : Type) (enc : TypeId × Value → H) :
    ReturnsInHanded {} Try.checked os 3 .any (Rows.pedalStepsSpec.pre6 enc Try.prog Try.f3 Rows.pedalStepsRow.domain false) (Rows.pedalStepsSpec.post enc Try.prog Try.f3 false true false false) := by
  refine returnsInHanded_of_change (C := Try.checked) ownKnobNone started (by kernel_rfl) Try.func3
    (ChangeSpec.witness6 (enc := enc) (C := Try.checked) false ⟨#[], #[.agg #[.int .i64 0, .int .i64 0, .bool false], .int .i64 0, .int .i64 0], []⟩ 8 (by kernel_rfl) (by kernel_rfl) (by kernel_rfl) (by kernel_rfl)) ?_
  intro W base args ds gs before hval0 hW hcnd _
  have hval : ∀ (j : Nat) t v, Try.f3.params[j]? = some t → args[j]? = some v → Value.okWide Try.prog W .any base t v := hval0
  have hW' := hW
  obtain ⟨p, q, hA0, hV, rfl, hfz, hnd⟩ := hW
  have hA : DataW.TrodAll enc Try.prog W 0 (fun _ => true) true Try.f3.params.toList args.toList ds p := hA0
  rw [Try.params3] at hA hval
  obtain ⟨v0, vs0, d0, ds0, p0, q0, hargs, rfl, rfl, h0, r0⟩ := trodAll_cons hA
  obtain ⟨v1, vs1, d1, ds1, p1, q1, rfl, rfl, rfl, h1, r1⟩ := trodAll_cons r0
  obtain ⟨v2, vs2, d2, ds2, p2, q2, rfl, rfl, rfl, h2, r2⟩ := trodAll_cons r1
  obtain ⟨rfl, rfl, rfl⟩ := trodAll_nil r2
  obtain rfl : args = #[v0, v1, v2] := by cases args; simp_all
  clear hA0 hval0
  have post : ∀ W', Below W.heap.size W W' → Rows.pedalStepsSpec.post enc Try.prog Try.f3 false true false false W #[v0, v1, v2] (.bool true) W' := fun W' hb =>
    post_true laidOut rfl (by kernel_rfl) rfl Try.underlying4 ⟨rfl, rfl, rfl⟩ hW' hb
  obtain ⟨cs0, rfl, hl0, hf0⟩ := open_agg Try.underlying23 (by kernel_rfl) (by kernel_rfl) (hval 0 23 v0 rfl rfl) h0
  obtain ⟨x0_0, e0_0, w0_0⟩ := field_int hf0 0 rfl Try.underlying3
  obtain ⟨x0_1, e0_1, w0_1⟩ := field_int hf0 1 rfl Try.underlying3
  obtain ⟨x0_2, e0_2⟩ := field_bool hf0 2 rfl Try.underlying4
  obtain rfl : cs0 = [.int .i64 x0_0, .int .i64 x0_1, .bool x0_2] := list_of3 hl0 e0_0 e0_1 e0_2
  obtain ⟨a1, rfl, _, _, w1⟩ := open_int Try.underlying3 (hval 1 3 v1 rfl rfl) h1
  obtain ⟨a2, rfl, _, _, w2⟩ := open_int Try.underlying3 (hval 2 3 v2 rfl rfl) h2
  cases hv : validB x0_0 x0_1 x0_2
  · exact (core_bad x0_0 x0_1 a1 a2 x0_2 W hv).mono fun e W' ⟨he, hb⟩ => ⟨_, he, post W' hb⟩
  · exact (core_ok x0_0 x0_1 a1 a2 x0_2 W hv).mono fun e W' ⟨he, hb⟩ => ⟨_, he, post W' hb⟩
theorem proved : Rows.PedalStepsSaid :=
  OpenClaim.holds_of_wide 3 Try.f3 rfl rfl rfl rfl rfl rfl rfl ⟨rfl, rfl, rfl, rfl, rfl⟩ rfl rfl rfl rfl rfl (by kernel_rfl) Try.func3 (by kernel_rfl)
    (of_decide_eq_true (by kernel_rfl)) (by unfold Func.isWrapper; first | (rw [if_pos (by decide +kernel)]; kernel_rfl) | (rw [if_neg (by decide +kernel)]; exact ⟨rfl, rfl⟩))
    (fun os started H enc _ => lifted os started H enc)
#print axioms proved
end Go.Proofs.Ytpkeghklfbpmhaa.pedalSteps
