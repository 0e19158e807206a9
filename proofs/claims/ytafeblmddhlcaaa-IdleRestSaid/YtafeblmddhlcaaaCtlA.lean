/-
  The contracts of the gains, the sums, the clamp and of filter.Control where it answers an error. No condition but those that each theorem names.
-/
import Derived.Test.YtafeblmddhlcaaaCtl
import Derived.RegionTactic
import Derived.Deep.RegionWith
set_option linter.unusedVariables false
namespace Go.Proofs.Ytafeblmddhlcaaa
open Go.RowKit
theorem bcell {W w1 : World} (hb : Below W.heap.size W w1) : (∀ b o, b < W.heap.size → w1.cell? ⟨b, o, none⟩ = W.cell? ⟨b, o, none⟩) ∧ (∀ b o, b < W.heap.size → w1.frozen? ⟨b, o, none⟩ = W.frozen? ⟨b, o, none⟩) :=
  ⟨fun b o h => hb.cell (p := ⟨b, o, none⟩) h, fun b o h => hb.frozen (p := ⟨b, o, none⟩) h⟩
def gainB (P I L H : Int) : Bool := decide (0 ≤ P ∧ P ≤ 65536 ∧ 0 ≤ I ∧ I ≤ 65536 ∧ -1073741824 ≤ L ∧ L ≤ H ∧ H ≤ 1073741824)
theorem gain24 (P I L H : Int) (w : World) : Calls Try.prog 24 #[.agg #[.int .i64 P, .int .i64 I, .int .i64 L, .int .i64 H]] w fun e w' => e = .returned (.bool (gainB P I L H)) ∧ Below w.heap.size w w' := by
  go_enter Try.func24, Try.ntmps24
  go_wp2
  all_goals (go_ret; refine ⟨ret_bool ?_, by go_grown⟩; simp_all [gainB] <;> intros <;> omega)
theorem gain26 (P I L H : Int) (w : World) : Calls Try.prog 26 #[.agg #[.int .i64 P, .int .i64 I, .int .i64 L, .int .i64 H]] w fun e w' => e = .returned (.bool (gainB P I L H)) ∧ Below w.heap.size w w' := by
  go_enter Try.func26, Try.ntmps26
  go_wp2
  all_goals (go_ret; refine ⟨ret_bool ?_, by go_grown⟩; simp_all [gainB] <;> intros <;> omega)
def sumB (S : Int) : Bool := decide (-4398046511104 ≤ S ∧ S ≤ 4398046511104)
theorem integral27 (S : Int) (w : World) : Calls Try.prog 27 #[.agg #[.int .i64 S]] w fun e w' => e = .returned (.bool (sumB S)) ∧ Below w.heap.size w w' := by
  go_enter Try.func27, Try.ntmps27
  go_wp2
  all_goals (go_ret; refine ⟨ret_bool ?_, by go_grown⟩; simp [sumB]; try omega)
def clamp (x l h : Int) : Int := min (max x l) h
theorem clamp30 (x l h : Int) (w : World) : Calls Try.prog 30 #[.int .i64 x, .int .i64 l, .int .i64 h] w fun e w' => e = .returned (.int .i64 (clamp x l h)) ∧ w = w' := by
  go_enter Try.func30, Try.ntmps30
  go_wp2
  all_goals (go_ret; refine ⟨ret_int ?_, rfl⟩; unfold clamp; omega)
theorem gain_facts {P I L H : Int} (h : gainB P I L H = true) : 0 ≤ P ∧ P ≤ 65536 ∧ 0 ≤ I ∧ I ≤ 65536 ∧ -1073741824 ≤ L ∧ L ≤ H ∧ H ≤ 1073741824 := by
  simpa [gainB] using h
theorem mul_facts {P e : Int} (h0 : 0 ≤ P) (h1 : P ≤ 65536) (e0 : -1048576 ≤ e) (e1 : e ≤ 1048576) : -68719476736 ≤ P * e ∧ P * e ≤ 68719476736 := by
  constructor
  · have : P * e ≥ P * (-1048576) := Int.mul_le_mul_of_nonneg_left e0 h0
    omega
  · have : P * e ≤ P * 1048576 := Int.mul_le_mul_of_nonneg_left e1 h0
    omega
def ctlU (P S e : Int) : Int := (P * e + S) / 1024
def ctlS (P I L H S e : Int) : Int := if (ctlU P S e ≤ H ∨ e ≤ 0) ∧ (L ≤ ctlU P S e ∨ 0 ≤ e) then clamp (S + I * e) (-4398046511104) 4398046511104 else S
def ctlBad (P I L H S e : Int) : Int := if gainB P I L H = false ∨ S < -4398046511104 ∨ 4398046511104 < S then 1 else if e < -1048576 ∨ 1048576 < e then 2 else 0
theorem control25_bad (P I L H S e : Int) (w : World) (hb : ctlBad P I L H S e ≠ 0) : Calls Try.prog 25 #[.agg #[.int .i64 S], .agg #[.int .i64 P, .int .i64 I, .int .i64 L, .int .i64 H], .int .i64 e] w fun r w' => r = .returned (.tuple #[.agg #[.int .i64 0], .int .i64 0, .int .i64 (ctlBad P I L H S e)]) ∧ Below w.heap.size w w' := by
  have key : (gainB P I L H = false ∧ ctlBad P I L H S e = 1) ∨ (gainB P I L H = true ∧ S < -4398046511104 ∧ ctlBad P I L H S e = 1) ∨ (gainB P I L H = true ∧ 4398046511104 < S ∧ ctlBad P I L H S e = 1) ∨ (gainB P I L H = true ∧ -4398046511104 ≤ S ∧ S ≤ 4398046511104 ∧ e < -1048576 ∧ ctlBad P I L H S e = 2) ∨ (gainB P I L H = true ∧ -4398046511104 ≤ S ∧ S ≤ 4398046511104 ∧ 1048576 < e ∧ ctlBad P I L H S e = 2) := by
    unfold ctlBad at *
    cases hg : gainB P I L H
    · simp
    · by_cases h1 : S < -4398046511104
      · simp [h1]
      · by_cases h2 : 4398046511104 < S
        · simp [h2]
        · by_cases h3 : e < -1048576
          · simp [h1, h2, h3]; omega
          · by_cases h4 : 1048576 < e
            · simp [h1, h2, h4]; omega
            · simp [hg, h1, h2, h3, h4] at hb
  clear hb
  rcases key with ⟨h1, he⟩ | ⟨h1, h2, he⟩ | ⟨h1, h2, he⟩ | ⟨h1, h2, h3, h4, he⟩ | ⟨h1, h2, h3, h4, he⟩
  all_goals
    rw [he]; clear he
    go_enter Try.func25, Try.ntmps25
    go_wp2_with (go_at_call 24; refine (gain24 _ _ _ _ _).mono ?_; rintro r w1 ⟨rfl, hb1⟩; have hg1 := chain (w := w) (by go_grown) hb1; obtain ⟨hc1, hf1⟩ := bcell hb1; have hz1 := hb1.size; simp at hz1; clear hb1)
    refine bodyPost_ret (v := .tuple #[.agg #[.int .i64 0], .int .i64 0, .int .i64 _]) (by have hz : w.heap.size + 1 + 1 < w1.heap.size := by omega
                                                                                           simp [results, Try.results25, go_sem, hc1, hz]) rfl ⟨rfl, ?_⟩
    go_grown
end Go.Proofs.Ytafeblmddhlcaaa
