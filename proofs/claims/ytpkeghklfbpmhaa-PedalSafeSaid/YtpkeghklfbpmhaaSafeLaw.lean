/-
  The plain law for PedalSafe: what a step does to the value, the counter and the fault, case by case; where the states lie in the row that Run returns. No condition.
-/
import Derived.Test.YtpkeghklfbpmhaaRun
set_option linter.unusedVariables false
namespace Go.Proofs.Ytpkeghklfbpmhaa
open Go.RowKit
theorem sts_len (f g : Nat → Int) : ∀ n, (sts f g n).length = n * 3
  | 0 => rfl
  | n + 1 => by rw [sts_succ, List.length_append, sts_len f g n]; simp; omega
theorem sts_get (f g : Nat → Int) : ∀ n i, i < n → (sts f g n)[i * 3]? = some (.int .i64 (sV f g (i + 1))) ∧ (sts f g n)[i * 3 + 1]? = some (.int .i64 (sD f g (i + 1))) ∧ (sts f g n)[i * 3 + 2]? = some (.bool (sD f g (i + 1) == 3))
  | 0, i, h => absurd h (Nat.not_lt_zero i)
  | n + 1, i, h => by
    rw [sts_succ]
    by_cases e : i = n
    · subst e
      have hl := sts_len f g i
      refine ⟨?_, ?_, ?_⟩ <;> (rw [List.getElem?_append_right (by omega), hl])
      · simp
      · rw [show i * 3 + 1 - i * 3 = 1 by omega]; rfl
      · rw [show i * 3 + 2 - i * 3 = 2 by omega]; rfl
    · have hl := sts_len f g n
      obtain ⟨h0, h1, h2⟩ := sts_get f g n i (by omega)
      refine ⟨?_, ?_, ?_⟩ <;> rw [List.getElem?_append_left (by omega)] <;> assumption
/-- the cells of a state in the row that Run returns -/
def States (w : World) (A : Option Addr) (len : Nat) (f g : Nat → Int) : Prop :=
  0 < len → ∃ b, A = some ⟨b, 0, none⟩ ∧ b < w.heap.size ∧ ∀ i, i < len → w.cell? ⟨b, i * 3, none⟩ = some (.int .i64 (sV f g (i + 1))) ∧ w.cell? ⟨b, i * 3 + 1, none⟩ = some (.int .i64 (sD f g (i + 1))) ∧ w.cell? ⟨b, i * 3 + 2, none⟩ = some (.bool (sD f g (i + 1) == 3))
theorem own_states {w : World} {base len : Nat} {v : Value} {f g : Nat → Int} (h : w.ownsRow base 23 3 v len (sts f g len)) : ∃ A cap, v = .slice A len cap ∧ len ≤ cap ∧ States w A len f g := by
  by_cases h0 : 0 < len
  · obtain ⟨b, cap, hv, _, hb, hc, _, hcell⟩ := own_form h h0
    refine ⟨_, cap, hv, hc, fun _ => ⟨b, rfl, hb, fun i hi => ?_⟩⟩
    obtain ⟨e0, e1, e2⟩ := sts_get f g len i hi
    exact ⟨hcell _ _ e0, hcell _ _ e1, hcell _ _ e2⟩
  · obtain rfl : len = 0 := by omega
    rcases h.2 with ⟨hv, _⟩ | ⟨b, cap, cur, hv, _⟩
    · exact ⟨none, 0, hv, Nat.zero_le _, fun h => absurd h (Nat.lt_irrefl 0)⟩
    · exact ⟨_, cap, hv, Nat.zero_le _, fun h => absurd h (Nat.lt_irrefl 0)⟩
/-- what a step does -/
def Went (V D V' D' a b : Int) : Prop :=
  0 ≤ V ∧ V ≤ 1000 ∧ 0 ≤ V' ∧ V' ≤ 1000 ∧ 0 ≤ D ∧ D ≤ 3 ∧ 0 ≤ a ∧ a ≤ 1000 ∧ 0 ≤ b ∧ b ≤ 1000 ∧
    (((50 < a - b ∨ 50 < b - a) ∧ V' ≤ a ∧ V' ≤ b ∧ ((D = 3 ∧ D' = 3 ∧ V' ≤ 200) ∨ (D = 2 ∧ D' = 3 ∧ V' ≤ 200) ∨ (D < 2 ∧ D' = D + 1 ∧ V' ≤ V))) ∨
     (a - b ≤ 50 ∧ b - a ≤ 50 ∧ ((D = 3 ∧ D' = 3 ∧ V' ≤ 200) ∨ (D < 3 ∧ D' = 0 ∧ V' = a))))
theorem went (V D x y : Int) (h : validB V D (D == 3) = true) : Went V D (nxV V D x y) (nxD D x y) (clamp x 0 1000) (2 * clamp y 0 500) := by
  have hc := valid_cases h
  obtain ⟨a, ha⟩ : ∃ a, a = clamp x 0 1000 := ⟨_, rfl⟩
  obtain ⟨b, hb⟩ : ∃ b, b = clamp y 0 500 := ⟨_, rfl⟩
  obtain ⟨R1, hR1⟩ : ∃ R, R = nxV V D x y := ⟨_, rfl⟩
  obtain ⟨R2, hR2⟩ : ∃ R, R = nxD D x y := ⟨_, rfl⟩
  obtain ⟨k1, k2⟩ := nx_facts ha hb hR1 hR2
  rw [← hR1, ← hR2, ← ha, ← hb]
  have a0 : 0 ≤ a ∧ a ≤ 1000 := by rw [ha]; unfold clamp; omega
  have b0 : 0 ≤ b ∧ b ≤ 500 := by rw [hb]; unfold clamp; omega
  have hD : 0 ≤ D ∧ D ≤ 3 ∧ 0 ≤ V ∧ V ≤ 1000 := by omega
  clear hc ha hb hR1 hR2 h
  have dD : D = 3 ∨ D = 2 ∨ D < 2 := by omega
  unfold Went
  rcases k1 with ⟨h1, h2⟩ | ⟨h1, h1', h2, h3⟩ | ⟨h1, h1', h2, h3⟩
  · rcases k2 with ⟨g1, g2⟩ | ⟨g1, g2, g3⟩ | ⟨g1, g2, g3, g4⟩
    · refine ⟨by omega, by omega, by omega, by omega, by omega, by omega, by omega, by omega, by omega, by omega, .inl ⟨h1, by omega, by omega, ?_⟩⟩
      rcases dD with d | d | d
      · exact .inl ⟨d, g1, by omega⟩
      · exact .inr (.inl ⟨d, g1, by omega⟩)
      · exact absurd g1 (by omega)
    · refine ⟨by omega, by omega, by omega, by omega, by omega, by omega, by omega, by omega, by omega, by omega, .inl ⟨h1, by omega, by omega, ?_⟩⟩
      rcases dD with d | d | d
      · exact absurd g1 (by omega)
      · exact absurd g1 (by omega)
      · exact .inr (.inr ⟨d, by omega, by omega⟩)
    · exact absurd h1 (by omega)
  · rcases k2 with ⟨g1, g2⟩ | ⟨g1, g2, g3⟩ | ⟨g1, g2, g3, g4⟩
    · exact ⟨by omega, by omega, by omega, by omega, by omega, by omega, by omega, by omega, by omega, by omega, .inr ⟨h1, h1', .inl ⟨h2, g1, by omega⟩⟩⟩
    · exact absurd h3 (by omega)
    · exact absurd h3 (by omega)
  · rcases k2 with ⟨g1, g2⟩ | ⟨g1, g2, g3⟩ | ⟨g1, g2, g3, g4⟩
    · exact absurd h3 (by omega)
    · exact absurd h1 (by omega)
    · exact ⟨by omega, by omega, by omega, by omega, by omega, by omega, by omega, by omega, by omega, by omega, .inr ⟨h1, h1', .inr ⟨by omega, h3, g4⟩⟩⟩
end Go.Proofs.Ytpkeghklfbpmhaa
