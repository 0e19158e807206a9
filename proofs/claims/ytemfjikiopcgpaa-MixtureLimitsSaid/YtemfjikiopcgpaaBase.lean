/-
  The contracts of the small functions of mixture and of its reference: ranges, classes, the cell of a point, the clamp. No condition.
-/
import Derived.Test.YtemfjikiopcgpaaKit
import Derived.Test.YtemfjikiopcgpaaHeld
set_option linter.unusedVariables false
set_option linter.unusedSimpArgs false
namespace Go.Proofs.Ytemfjikiopcgpaa
open Go.RowKit
def inB (x l h : Int) : Bool := decide (l ≤ x) && decide (x ≤ h)
theorem inB_t {x l h : Int} (h0 : inB x l h = true) : l ≤ x ∧ x ≤ h := by simpa [inB] using h0
theorem inB_mk {x l h : Int} (h0 : l ≤ x) (h1 : x ≤ h) : inB x l h = true := by simp [inB, h0, h1]
theorem in29 (x l h : Int) (w : World) : Calls Try.prog 29 #[.int .i64 x, .int .i64 l, .int .i64 h] w fun r w' => r = .returned (.bool (inB x l h)) ∧ w = w' := by
  by_cases h1 : l ≤ x <;> by_cases h2 : x ≤ h
  all_goals
    go_enter Try.func29, Try.ntmps29
    go_wp2
    go_ret
    exact ⟨ret_bool (by simp [inB, h1, h2]), rfl⟩
theorem in33 (x l h : Int) (w : World) : Calls Try.prog 33 #[.int .i64 x, .int .i64 l, .int .i64 h] w fun r w' => r = .returned (.bool (inB x l h)) ∧ w = w' := by
  by_cases h1 : l ≤ x <;> by_cases h2 : x ≤ h
  all_goals
    go_enter Try.func33, Try.ntmps33
    go_wp2
    go_ret
    exact ⟨ret_bool (by simp [inB, h1, h2]), rfl⟩
def pt (s c : Int) : Bool := inB s 0 12000 && inB c 0 1048576
theorem point28 (s c : Int) (w : World) : Calls Try.prog 28 #[.int .i64 s, .int .i64 c] w fun r w' => r = .returned (.bool (pt s c)) ∧ w = w' := by
  have A := fun w => in29 s 0 12000 w
  have B := fun w => in29 c 0 1048576 w
  unfold pt
  generalize inB s 0 12000 = a at A ⊢
  generalize inB c 0 1048576 = b at B ⊢
  have A := Lib.hid A
  have B := Lib.hid B
  cases a
  all_goals
    go_enter Try.func28, Try.ntmps28
    go_wp2_with fail
    refine (A.out _).mono ?_
    rintro r w1 ⟨rfl, rfl⟩
  · go_wp2
    go_ret
    exact ⟨rfl, rfl⟩
  · go_wp2_with fail
    refine (B.out _).mono ?_
    rintro r w1 ⟨rfl, rfl⟩
    go_wp2
    go_ret
    exact ⟨rfl, rfl⟩
theorem point32 (s c : Int) (w : World) : Calls Try.prog 32 #[.int .i64 s, .int .i64 c] w fun r w' => r = .returned (.bool (pt s c)) ∧ w = w' := by
  have A := fun w => in33 s 0 12000 w
  have B := fun w => in33 c 0 1048576 w
  unfold pt
  generalize inB s 0 12000 = a at A ⊢
  generalize inB c 0 1048576 = b at B ⊢
  have A := Lib.hid A
  have B := Lib.hid B
  cases a
  all_goals
    go_enter Try.func32, Try.ntmps32
    go_wp2_with fail
    refine (A.out _).mono ?_
    rintro r w1 ⟨rfl, rfl⟩
  · go_wp2
    go_ret
    exact ⟨rfl, rfl⟩
  · go_wp2_with fail
    refine (B.out _).mono ?_
    rintro r w1 ⟨rfl, rfl⟩
    go_wp2
    go_ret
    exact ⟨rfl, rfl⟩
def clamp (x l h : Int) : Int := min (max x l) h
theorem clamp31 (x l h : Int) (w : World) : Calls Try.prog 31 #[.int .i64 x, .int .i64 l, .int .i64 h] w fun e w' => e = .returned (.int .i64 (clamp x l h)) ∧ w = w' := by
  go_enter Try.func31, Try.ntmps31
  go_wp2
  all_goals (go_ret; refine ⟨ret_int ?_, rfl⟩; unfold clamp; omega)
def cls (x a b : Int) : Int := (if a ≤ x then 1 else 0) + if b ≤ x then 1 else 0
theorem class38 (x a b : Int) (g : Nat) (c : Nat) (w : World) (c0 : w.cell? ⟨g, 0, none⟩ = some (.int .i64 a)) (c1 : w.cell? ⟨g, 1, none⟩ = some (.int .i64 b)) :
    Calls Try.prog 38 #[.int .i64 x, .slice (some ⟨g, 0, none⟩) 2 c] w fun e w' => e = .returned (.int .i64 (cls x a b)) ∧ w = w' := by
  obtain ⟨C, hC⟩ : ∃ C, C = cls x a b := ⟨_, rfl⟩
  rw [← hC]
  have HC := Lib.hid hC
  clear hC
  by_cases h1 : a ≤ x <;> by_cases h2 : b ≤ x
  all_goals
    go_enter Try.func38, Try.ntmps38
    go_wp2
    go_rounds 3
    go_ret
    exact ⟨ret_int (by rw [HC.out]; unfold cls; (repeat' split) <;> omega), rfl⟩
def cellN (s c : Int) : Int := if pt s c then 3 * cls s 1500 3500 + cls c 150000 350000 else -1
theorem cls_bd (x a b : Int) : 0 ≤ cls x a b ∧ cls x a b ≤ 2 := by unfold cls; split <;> split <;> omega
theorem cellN_bd (s c : Int) (h : pt s c = true) : 0 ≤ cellN s c ∧ cellN s c ≤ 8 := by
  have := cls_bd s 1500 3500; have := cls_bd c 150000 350000
  unfold cellN; rw [if_pos h]; omega
theorem cell26 (s c : Int) (w : World) : Calls Try.prog 26 #[.int .i64 s, .int .i64 c] w fun e w' => e = .returned (.int .i64 (cellN s c)) ∧ Below w.heap.size w w' := by
  have A := fun w => point28 s c w
  have hb1 := cls_bd s 1500 3500
  have hb2 := cls_bd c 150000 350000
  have C1 := fun g w h0 h1 => class38 s 1500 3500 g 2 w h0 h1
  have C2 := fun g w h0 h1 => class38 c 150000 350000 g 2 w h0 h1
  unfold cellN
  generalize cls s 1500 3500 = x at hb1 C1 ⊢
  generalize cls c 150000 350000 = y at hb2 C2 ⊢
  generalize pt s c = p at A ⊢
  have A := Lib.hid A
  have C1 := Lib.hid C1
  have C2 := Lib.hid C2
  cases p
  all_goals
    go_enter Try.func26, Try.ntmps26
    go_wp2_with fail
    refine (A.out _).mono ?_
    rintro r w1 ⟨rfl, rfl⟩
  · go_wp2
    go_ret
    exact ⟨rfl, Below.refl _ _⟩
  · go_wp2_with fail
    refine (C1.out w.heap.size _ (by go_cell) (by go_cell)).mono ?_
    rintro r w1 ⟨rfl, rfl⟩
    go_wp2_with fail
    refine (C2.out (w.heap.size + 1) _ (by go_cell) (by go_cell)).mono ?_
    rintro r w1 ⟨rfl, rfl⟩
    go_wp2
    go_ret
    exact ⟨rfl, by go_grown⟩
theorem cell27 (s c : Int) (w : World) : Calls Try.prog 27 #[.int .i64 s, .int .i64 c] w fun e w' => e = .returned (.int .i64 (cellN s c)) ∧ Below w.heap.size w w' := by
  have A := fun w => point32 s c w
  unfold cellN
  generalize pt s c = p at A ⊢
  obtain ⟨C, hC⟩ : ∃ C, C = 3 * cls s 1500 3500 + cls c 150000 350000 := ⟨_, rfl⟩
  rw [← hC]
  have HC := Lib.hid hC
  have A := Lib.hid A
  clear hC
  cases p
  · go_enter Try.func27, Try.ntmps27
    go_wp2_with fail
    refine (A.out _).mono ?_
    rintro r w1 ⟨rfl, rfl⟩
    go_wp2
    go_ret
    exact ⟨rfl, Below.refl _ _⟩
  · by_cases h1 : s < 1500 <;> by_cases h2 : s < 3500 <;> by_cases h3 : c < 150000 <;> by_cases h4 : c < 350000
    all_goals first | (exfalso; omega) | skip
    all_goals
      go_enter Try.func27, Try.ntmps27
      go_wp2_with fail
      refine (A.out _).mono ?_
      rintro r w1 ⟨rfl, rfl⟩
      go_wp2
      go_ret
      exact ⟨ret_int (by rw [HC.out]; unfold cls; (repeat' split) <;> omega), Below.refl _ _⟩
end Go.Proofs.Ytemfjikiopcgpaa
