/-
  The contracts of both New, of few, and the law file's own check of the example. No condition.
-/
import Derived.Test.YtemfjikiopcgpaaCopy
set_option linter.unusedVariables false
set_option linter.unusedSimpArgs false
namespace Go.Proofs.Ytemfjikiopcgpaa
open Go.RowKit
theorem mk9 (w : World) : (Instr.makeSlice 22 (.int .i64 9) (.int .i64 9)).run Try.prog w = .ok (.slice (some ⟨w.heap.size, 0, none⟩) 9 9) (w.alloc (.cells #[.int .i64 0, .int .i64 0, .int .i64 0, .int .i64 0, .int .i64 0, .int .i64 0, .int .i64 0, .int .i64 0, .int .i64 0, .int .i64 0, .int .i64 0, .int .i64 0, .int .i64 0, .int .i64 0, .int .i64 0, .int .i64 0, .int .i64 0, .int .i64 0] 52)) := by kernel_rfl
theorem zero_cls (w : World) (b : Nat) (h : w.heap[b]? = some (.cells #[.int .i64 0, .int .i64 0, .int .i64 0, .int .i64 0, .int .i64 0, .int .i64 0, .int .i64 0, .int .i64 0, .int .i64 0, .int .i64 0, .int .i64 0, .int .i64 0, .int .i64 0, .int .i64 0, .int .i64 0, .int .i64 0, .int .i64 0, .int .i64 0] 52 (0, 0))) : Cls w (some ⟨b, 0, none⟩) 9 (fun _ => 0) (fun _ => 0) := by
  intro _
  refine ⟨b, 0, rfl, (Array.getElem?_eq_some_iff.1 h).1, fun i hi => ?_⟩
  have hc : ∀ j, j < 18 → w.cell? ⟨b, j, none⟩ = some (.int .i64 0) := by
    intro j hj
    simp only [World.cell?, h]
    match j, hj with
    | 0, _ => rfl
    | 1, _ => rfl
    | 2, _ => rfl
    | 3, _ => rfl
    | 4, _ => rfl
    | 5, _ => rfl
    | 6, _ => rfl
    | 7, _ => rfl
    | 8, _ => rfl
    | 9, _ => rfl
    | 10, _ => rfl
    | 11, _ => rfl
    | 12, _ => rfl
    | 13, _ => rfl
    | 14, _ => rfl
    | 15, _ => rfl
    | 16, _ => rfl
    | 17, _ => rfl
    | n + 18, h => exact absurd h (by omega)
  simp only [Nat.zero_add]
  exact ⟨hc _ (by omega), hc _ (by omega)⟩
theorem new_at {W : World} {n : Nat} (hn : n = W.heap.size) (o : Obj) : (W.alloc o).heap[n]? = some o := by subst hn; exact heap_alloc_new _ _
def NewPost (w : World) (x : Ending) (w' : World) : Prop :=
  ∃ b, x = .returned (.agg #[.bool false, .bool false, .int .i64 1000, .int .i64 0, .slice (some ⟨b, 0, none⟩) 9 9]) ∧ w.heap.size ≤ b ∧ b < w'.heap.size ∧ Cls w' (some ⟨b, 0, none⟩) 9 (fun _ => 0) (fun _ => 0) ∧ Below w.heap.size w w'
theorem new17 (w : World) : Calls Try.prog 17 #[] w (NewPost w) := by
  have hm := mk9
  go_enter Try.func17, Try.ntmps17
  go_wp2_with fail
  refine bodyPost_ret (v := .agg #[.bool false, .bool false, .int .i64 1000, .int .i64 0, .slice (some ⟨w.heap.size + 1, 0, none⟩) 9 9]) (by simp [results, Try.results17, go_sem] <;> first | rfl | ((repeat' apply And.intro) <;> rfl)) rfl ⟨w.heap.size + 1, rfl, by simp, by simp, ?_, by go_grown⟩
  exact zero_cls _ _ (new_at (by simp) _)
theorem new18 (w : World) : Calls Try.prog 18 #[] w (NewPost w) := by
  have hm := mk9
  go_enter Try.func18, Try.ntmps18
  go_wp2_with fail
  refine bodyPost_ret (v := .agg #[.bool false, .bool false, .int .i64 1000, .int .i64 0, .slice (some ⟨w.heap.size + 1, 0, none⟩) 9 9]) (by simp [results, Try.results18, go_sem] <;> first | rfl | ((repeat' apply And.intro) <;> rfl)) rfl ⟨w.heap.size + 1, rfl, by simp, by simp, ?_, by go_grown⟩
  exact zero_cls _ _ (new_at (by simp) _)
theorem few12 (a r : Bool) (F W : Int) (A : Option Addr) (n cap : Nat) (w : World) : Calls Try.prog 12 #[.agg #[.bool a, .bool r, .int .i64 F, .int .i64 W, .slice A n cap]] w fun x w' => x = .returned (.bool (decide (n ≤ 20))) ∧ Below w.heap.size w w' := by
  by_cases h : n ≤ 20
  all_goals
    go_enter Try.func12, Try.ntmps12
    go_wp2
    go_ret
    exact ⟨ret_bool (by simp [h] <;> omega), by go_grown⟩
end Go.Proofs.Ytemfjikiopcgpaa
