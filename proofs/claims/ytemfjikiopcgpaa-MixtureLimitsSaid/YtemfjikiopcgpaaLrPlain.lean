/-
  What learning does to a valid state, in plain numbers; Learn and Factor of a valid state. No condition but the slice's shape.
-/
import Derived.Test.YtemfjikiopcgpaaLearn
import Derived.Test.YtemfjikiopcgpaaFactor
set_option linter.unusedVariables false
set_option linter.unusedSimpArgs false
namespace Go.Proofs.Ytemfjikiopcgpaa
open Go.RowKit
theorem okP_mk2 {a r : Bool} {F W : Int} {f g : Nat → Int} (h1 : 750 ≤ F) (h2 : F ≤ 1250) (h3 : 0 ≤ W) (h4 : W ≤ 1000) (h5 : a = true ∨ (F = 1000 ∧ W = 0 ∧ r = false)) (h6 : allC f g 9 = true) : okP a r F W 9 f g = true := by
  unfold okP
  rw [inB_mk h1 h2, inB_mk h3 h4, h6]
  rcases h5 with rfl | ⟨rfl, rfl, rfl⟩ <;> simp
theorem step_valid2 {a r : Bool} {F W mv : Int} {f g : Nat → Int} (h : okP a r F W 9 f g = true) : okP (stepA a mv) (stepR a r mv) (stepF a r F mv) (stepW a r W mv) 9 f g = true := by
  obtain ⟨F0, F1, W0, W1, _, ha, hc⟩ := okP_bd h
  cases a
  · obtain ⟨rfl, rfl, rfl⟩ : F = 1000 ∧ W = 0 ∧ r = false := by simpa using ha
    refine okP_mk2 (by simp [stepF]) (by simp [stepF]) (by simp [stepW]) (by simp [stepW]) ?_ hc
    by_cases h1 : mv < 300
    · left; simp [stepA, h1]
    · by_cases h2 : 600 < mv
      · left; simp [stepA, h2]
      · right; simp [stepF, stepW, stepR, h2]
  · refine okP_mk2 ?_ ?_ ?_ ?_ (.inl (by simp [stepA])) hc
    · simp [stepF, clamp]; omega
    · simp [stepF, clamp]; omega
    · simp only [stepW, if_true]; split <;> omega
    · simp only [stepW, if_true]; split <;> omega
theorem lrV_bd {F v : Int} (h0 : 750 ≤ F) (h1 : F ≤ 1250) (v0 : -100 ≤ v) (v1 : v ≤ 100) : -100 ≤ lrV F v ∧ lrV F v ≤ 100 ∧ (1000 ≤ F → 0 ≤ lrV F v - v ∧ lrV F v - v ≤ F - 1000) ∧ (F ≤ 1000 → lrV F v - v ≤ 0 ∧ F - 1000 ≤ lrV F v - v) := by
  have hq : (1000 ≤ F → 0 ≤ (F - 1000).tdiv 8 ∧ (F - 1000).tdiv 8 ≤ F - 1000) ∧ (F ≤ 1000 → (F - 1000).tdiv 8 ≤ 0 ∧ F - 1000 ≤ (F - 1000).tdiv 8) := by
    constructor
    · intro h
      rw [Int.tdiv_eq_ediv_of_nonneg (by omega)]; omega
    · intro h
      have e : F - 1000 = -(1000 - F) := by omega
      rw [e, Int.neg_tdiv, Int.tdiv_eq_ediv_of_nonneg (by omega)]; omega
  unfold lrV clamp
  generalize (F - 1000).tdiv 8 = q at hq
  omega
theorem allC_mk {f g : Nat → Int} : ∀ n, (∀ i, i < n → cOk (f i) (g i) = true) → allC f g n = true
  | 0, _ => rfl
  | n + 1, h => by
    show (allC f g n && cOk (f n) (g n)) = true
    rw [allC_mk n (fun i hi => h i (by omega)), h n (by omega)]
    rfl
theorem lr_valid {r : Bool} {F W : Int} {f g : Nat → Int} {k : Nat} (h : okP true r F W 9 f g = true) (hk : k < 9) : okP true r (lrF F f k) W 9 (lrf F f k) (lrg g k) = true := by
  obtain ⟨F0, F1, W0, W1, _, _, hc⟩ := okP_bd h
  have hck := allC_at 9 hc k hk
  simp only [cOk, Bool.and_eq_true] at hck
  obtain ⟨v0, v1⟩ := inB_t hck.1
  obtain ⟨g0, g1⟩ := inB_t hck.2
  obtain ⟨b0, b1, b2, b3⟩ := lrV_bd F0 F1 v0 v1
  refine okP_mk2 (by unfold lrF; omega) (by unfold lrF; omega) W0 W1 (.inl rfl) (allC_mk 9 fun i hi => ?_)
  unfold lrf lrg
  by_cases e : i = k
  · simp only [if_pos e, cOk]
    rw [inB_mk b0 b1, inB_mk (by omega) (by omega)]
    rfl
  · simp only [if_neg e]
    exact allC_at 9 hc i hi
theorem learn_run (r : Bool) (F W : Int) (A : Option Addr) (cap : Nat) (f g : Nat → Int) (k : Nat) (w : World) (F' : Int) (f' g' : Nat → Int) (hs : Cls w A 9 f g) (h : okP true r F W 9 f g = true) (hk : k < 9) (h1 : lrF F f k = F') (h2 : lrf F f k = f') (h3 : lrg g k = g') :
    Calls Try.prog 22 #[.agg #[.bool true, .bool r, .int .i64 F, .int .i64 W, .slice A 9 cap], .int .i64 k] w fun x w' =>
      ∃ b' c', x = .returned (.tuple #[.agg #[.bool true, .bool r, .int .i64 F', .int .i64 W, .slice (some ⟨b', 0, none⟩) 9 c'], .int .i64 0]) ∧ w.heap.size ≤ b' ∧ b' < w'.heap.size ∧ Cls w' (some ⟨b', 0, none⟩) 9 f' g' ∧ Below w.heap.size w w' := by
  subst h1 h2 h3
  refine (learn22_ok r F W A cap f g k w hs h hk).mono ?_
  rintro x w' (⟨_, h⟩ | ⟨h, _⟩)
  · exact h
  · exact absurd rfl h
theorem fac_run (a r : Bool) (F W : Int) (A : Option Addr) (cap : Nat) (f g : Nat → Int) (s c : Int) (w : World) (z : Int) (hs : Cls w A 9 f g) (h : okP a r F W 9 f g = true) (h2 : pt s c = true) (hz : z = facV F f s c) :
    Calls Try.prog 24 #[.agg #[.bool a, .bool r, .int .i64 F, .int .i64 W, .slice A 9 cap], .int .i64 s, .int .i64 c] w fun x w' => x = .returned (.tuple #[.int .i64 z, .int .i64 0]) ∧ Below w.heap.size w w' := by
  subst hz
  exact fac24_ok a r F W A 9 cap f g s c w hs (by omega) h h2
theorem facV_bd (F : Int) (f : Nat → Int) (s c : Int) : 700 ≤ facV F f s c ∧ facV F f s c ≤ 1300 := by unfold facV clamp; omega
theorem facV_lr (F : Int) (f : Nat → Int) (s c : Int) (k : Nat) (hk : cellN s c = k) : facV (lrF F f k) (lrf F f k) s c = facV F f s c := by
  unfold facV
  have e : (cellN s c).toNat = k := by omega
  rw [e]
  have : lrF F f k + lrf F f k k = F + f k := by simp only [lrF, lrf, if_pos]; omega
  rw [this]
end Go.Proofs.Ytemfjikiopcgpaa
