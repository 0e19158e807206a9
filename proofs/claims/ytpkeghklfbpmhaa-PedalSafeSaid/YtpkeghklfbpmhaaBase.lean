/-
  The contracts of pedal.New, Valid, Step and of their references: each answers as its plain Lean function says. No condition but that a state is valid where the reference takes that for granted.
-/
import Derived.Test.YtpkeghklfbpmhaaKit
set_option linter.unusedVariables false
namespace Go.Proofs.Ytpkeghklfbpmhaa
open Go.RowKit
def clamp (x l h : Int) : Int := min (max x l) h
theorem clamp15 (x l h : Int) (w : World) : Calls Try.prog 15 #[.int .i64 x, .int .i64 l, .int .i64 h] w fun e w' => e = .returned (.int .i64 (clamp x l h)) ∧ w = w' := by
  go_enter Try.func15, Try.ntmps15
  go_wp2
  all_goals (go_ret; refine ⟨ret_int ?_, rfl⟩; unfold clamp; omega)
theorem clamp16 (x l h : Int) (w : World) (hlh : l ≤ h) : Calls Try.prog 16 #[.int .i64 x, .int .i64 l, .int .i64 h] w fun e w' => e = .returned (.int .i64 (clamp x l h)) ∧ w = w' := by
  go_enter Try.func16, Try.ntmps16
  go_wp2
  all_goals (go_ret; refine ⟨ret_int ?_, rfl⟩; unfold clamp; omega)
/-- a state as a value -/
def ped (V D : Int) (F : Bool) : Value := .agg #[.int .i64 V, .int .i64 D, .bool F]
def validB (V D : Int) (F : Bool) : Bool := decide (0 ≤ V ∧ V ≤ (if F then 200 else 1000) ∧ 0 ≤ D ∧ D ≤ 3) && (F == decide (D = 3))
set_option maxHeartbeats 1000000 in
theorem valid9 (V D : Int) (F : Bool) (w : World) : Calls Try.prog 9 #[.agg #[.int .i64 V, .int .i64 D, .bool F]] w fun e w' => e = .returned (.bool (validB V D F)) ∧ Below w.heap.size w w' := by
  have hD : D = 3 ∨ ((D == 3) = false ∧ ¬ D = 3) := by by_cases h : D = 3 <;> simp [h]
  rcases hD with rfl | ⟨hD1, hD2⟩ <;> cases F
  all_goals
    go_enter Try.func9, Try.ntmps9
    go_wp2
    all_goals (go_ret; refine ⟨ret_bool ?_, by go_grown⟩; simp_all [validB] <;> intros <;> omega)
set_option maxHeartbeats 1000000 in
theorem valid10 (V D : Int) (F : Bool) (w : World) : Calls Try.prog 10 #[.agg #[.int .i64 V, .int .i64 D, .bool F]] w fun e w' => e = .returned (.bool (validB V D F)) ∧ Below w.heap.size w w' := by
  have hD : D = 3 ∨ ((D == 3) = false ∧ ¬ D = 3) := by by_cases h : D = 3 <;> simp [h]
  rcases hD with rfl | ⟨hD1, hD2⟩ <;> cases F
  all_goals
    go_enter Try.func10, Try.ntmps10
    go_wp2
    all_goals (go_ret; refine ⟨ret_bool ?_, by go_grown⟩; simp_all [validB] <;> intros <;> omega)
theorem new8 (w : World) : Calls Try.prog 8 #[] w fun e w' => e = .returned (.agg #[.int .i64 0, .int .i64 0, .bool false]) ∧ Below w.heap.size w w' := by
  go_enter Try.func8, Try.ntmps8
  go_wp2
  go_returns
  exact ⟨rfl, by go_grown⟩
theorem valid_cases {V D : Int} {F : Bool} (h : validB V D F = true) : (D = 3 ∧ F = true ∧ 0 ≤ V ∧ V ≤ 200) ∨ (D = 0 ∧ F = false ∧ 0 ≤ V ∧ V ≤ 1000) ∨ (D = 1 ∧ F = false ∧ 0 ≤ V ∧ V ≤ 1000) ∨ (D = 2 ∧ F = false ∧ 0 ≤ V ∧ V ≤ 1000) := by
  have h2 : F = decide (D = 3) := by
    cases F <;> by_cases h3 : D = 3 <;> simp_all [validB]
  have h3 : 0 ≤ V ∧ V ≤ (if F then 200 else 1000) ∧ 0 ≤ D ∧ D ≤ 3 := by
    simp only [validB, Bool.and_eq_true, decide_eq_true_eq] at h
    exact h.1
  by_cases h4 : D = 3
  · subst h4
    simp at h2
    subst h2
    simp at h3
    exact .inl ⟨rfl, rfl, h3.1, h3.2⟩
  · have h5 : F = false := by rw [h2]; simp [h4]
    subst h5
    simp at h3
    have : D = 0 ∨ D = 1 ∨ D = 2 := by omega
    rcases this with rfl | rfl | rfl
    · exact .inr (.inl ⟨rfl, rfl, by omega, by omega⟩)
    · exact .inr (.inr (.inl ⟨rfl, rfl, by omega, by omega⟩))
    · exact .inr (.inr (.inr ⟨rfl, rfl, by omega, by omega⟩))
def fst (x : Int) : Int := clamp x 0 1000
def snd (y : Int) : Int := 2 * clamp y 0 500
def dif (x y : Int) : Bool := decide (50 < fst x - snd y ∨ 50 < snd y - fst x)
def nxD (D x y : Int) : Int := if dif x y then min 3 (D + 1) else if D = 3 then 3 else 0
def nxV (V D x y : Int) : Int := if nxD D x y = 3 then min (min (fst x) (snd y)) 200 else if dif x y then min (min (fst x) (snd y)) V else fst x
theorem fst_bd (x : Int) : 0 ≤ fst x ∧ fst x ≤ 1000 := by unfold fst clamp; omega
theorem snd_bd (x : Int) : 0 ≤ snd x ∧ snd x ≤ 1000 := by unfold snd clamp; omega
theorem nx_facts {V D x y a b R1 R2 : Int} (ha : a = clamp x 0 1000) (hb : b = clamp y 0 500) (h1 : R1 = nxV V D x y) (h2 : R2 = nxD D x y) :
    (((50 < a - 2 * b ∨ 50 < 2 * b - a) ∧ R2 = min 3 (D + 1)) ∨ (a - 2 * b ≤ 50 ∧ 2 * b - a ≤ 50 ∧ D = 3 ∧ R2 = 3) ∨ (a - 2 * b ≤ 50 ∧ 2 * b - a ≤ 50 ∧ (D < 3 ∨ 3 < D) ∧ R2 = 0)) ∧
    ((R2 = 3 ∧ R1 = min (min a (2 * b)) 200) ∨ ((R2 < 3 ∨ 3 < R2) ∧ (50 < a - 2 * b ∨ 50 < 2 * b - a) ∧ R1 = min (min a (2 * b)) V) ∨ ((R2 < 3 ∨ 3 < R2) ∧ a - 2 * b ≤ 50 ∧ 2 * b - a ≤ 50 ∧ R1 = a)) := by
  have ea : fst x = a := ha.symm
  have eb : snd y = 2 * b := by rw [hb]; rfl
  unfold nxV at h1
  rw [← h2, ea, eb] at h1
  unfold nxD at h2
  have hd : dif x y = decide (50 < a - 2 * b ∨ 50 < 2 * b - a) := by unfold dif; rw [ea, eb]
  rw [hd] at h1 h2
  simp only [decide_eq_true_eq] at h1 h2
  by_cases h : 50 < a - 2 * b ∨ 50 < 2 * b - a
  · rw [if_pos h] at h1 h2
    refine ⟨.inl ⟨h, h2⟩, ?_⟩
    by_cases h3 : R2 = 3
    · rw [if_pos h3] at h1; exact .inl ⟨h3, h1⟩
    · rw [if_neg h3] at h1; exact .inr (.inl ⟨by omega, h, h1⟩)
  · rw [if_neg h] at h1 h2
    constructor
    · by_cases h3 : D = 3
      · rw [if_pos h3] at h2; exact .inr (.inl ⟨by omega, by omega, h3, h2⟩)
      · rw [if_neg h3] at h2; exact .inr (.inr ⟨by omega, by omega, by omega, h2⟩)
    · by_cases h3 : R2 = 3
      · rw [if_pos h3] at h1; exact .inl ⟨h3, h1⟩
      · rw [if_neg h3] at h1; exact .inr (.inr ⟨by omega, by omega, by omega, h1⟩)
theorem ret_pe {V D V' D' e e' : Int} {F F' : Bool} (h1 : V = V') (h2 : D = D') (h3 : F = F') (h4 : e = e') : Ending.returned (.tuple #[.agg #[.int .i64 V, .int .i64 D, .bool F], .int .i64 e]) = .returned (.tuple #[.agg #[.int .i64 V', .int .i64 D', .bool F'], .int .i64 e']) := by rw [h1, h2, h3, h4]
theorem ret_p {V D V' D' : Int} {F F' : Bool} (h1 : V = V') (h2 : D = D') (h3 : F = F') : Ending.returned (.agg #[.int .i64 V, .int .i64 D, .bool F]) = .returned (.agg #[.int .i64 V', .int .i64 D', .bool F']) := by rw [h1, h2, h3]
theorem step7_bad (V D x y : Int) (F : Bool) (w : World) (hv : validB V D F = false) : Calls Try.prog 7 #[.agg #[.int .i64 V, .int .i64 D, .bool F], .int .i64 x, .int .i64 y] w fun e w' => e = .returned (.tuple #[.agg #[.int .i64 0, .int .i64 0, .bool false], .int .i64 1]) ∧ Below w.heap.size w w' := by
  go_enter Try.func7, Try.ntmps7
  go_wp2_with fail
  refine (valid9 _ _ _ _).mono ?_
  rintro r w1 ⟨rfl, hb1⟩
  have hg1 := chain (w := w) (by go_grown) hb1
  obtain ⟨hc1, hf1⟩ := bcell hb1
  have hz1 := hb1.size
  simp at hz1
  have q0 : w1.cell? ⟨w.heap.size + 1, 0, none⟩ = some (.int .i64 0) := (hc1 _ _ (by simp)).trans (by go_cell)
  have q1 : w1.cell? ⟨w.heap.size + 1, 1, none⟩ = some (.int .i64 0) := (hc1 _ _ (by simp)).trans (by go_cell)
  have q2 : w1.cell? ⟨w.heap.size + 1, 2, none⟩ = some (.bool false) := (hc1 _ _ (by simp)).trans (by go_cell)
  have f0 : w1.frozen? ⟨w.heap.size + 1, 0, none⟩ = false := (hf1 _ _ (by simp)).trans (by simp [go_sem])
  have f1 : w1.frozen? ⟨w.heap.size + 1, 1, none⟩ = false := (hf1 _ _ (by simp)).trans (by simp [go_sem])
  have f2 : w1.frozen? ⟨w.heap.size + 1, 2, none⟩ = false := (hf1 _ _ (by simp)).trans (by simp [go_sem])
  have hz : w.heap.size + 1 < w1.heap.size := by omega
  clear hc1 hf1 hb1
  go_wp2
  refine bodyPost_ret (v := .tuple #[.agg #[.int .i64 _, .int .i64 _, .bool _], .int .i64 _]) (by simp [results, Try.results7, go_sem, q0, q1, q2, hz] <;> first | rfl | exact ⟨rfl, rfl⟩) rfl ⟨ret_pe rfl rfl rfl rfl, ?_⟩
  go_grown
end Go.Proofs.Ytpkeghklfbpmhaa
