import Derived.Test.YtafeblmddhlcaaaRuns
set_option linter.unusedVariables false
namespace Go.Proofs.Ytafeblmddhlcaaa
open Go.RowKit
theorem ints_take {w : World} {A : Option Addr} {n k : Nat} {f : Nat → Int} (h : Ints .i64 w A n f) (hk : k ≤ n) : Ints .i64 w A k f := fun h0 => by
  obtain ⟨b, o, e, hl, hc⟩ := h (by omega)
  exact ⟨b, o, e, hl, fun i hi => hc i (by omega)⟩
theorem lpE_zero {P I L H t : Int} {f : Nat → Int} : ∀ n, lpE P I L H t f n = 0 → ∀ k, k ≤ n → lpE P I L H t f k = 0
  | 0, h, k, hk => by obtain rfl : k = 0 := by omega
                      exact h
  | n + 1, h, k, hk => by
    have h' : (if lpE P I L H t f n = 0 then rnE P I L H t f n else lpE P I L H t f n) = 0 := h
    by_cases e : lpE P I L H t f n = 0
    · by_cases hk' : k = n + 1
      · subst hk'; exact h
      · exact lpE_zero n e k (by omega)
    · rw [if_neg e] at h'; exact absurd h' e
theorem runE_zero {P I L H t : Int} {f : Nat → Int} {n k : Nat} (h : runE P I L H t f n = 0) (hk : k ≤ n) : runE P I L H t f k = 0 := by
  unfold runE at h ⊢
  by_cases g : gainB P I L H = false
  · rw [if_pos g] at h; exact absurd h (by decide)
  · rw [if_neg g] at h ⊢
    by_cases b : 1000 < n
    · rw [if_pos b] at h; exact absurd h (by decide)
    · rw [if_neg b] at h; rw [if_neg (by omega)]
      by_cases s : spd t = false
      · rw [if_pos s] at h; exact absurd h (by decide)
      · rw [if_neg s] at h ⊢; exact lpE_zero n h k hk
theorem rest_law {P I L H t : Int} (h : stE P I L H 0 t t = 0) : stS P I L H 0 t t = 0 ∧ stU P I L H 0 t t = min (max 0 L) H := by
  have hg : -1073741824 ≤ L ∧ L ≤ H ∧ H ≤ 1073741824 := by
    unfold stE at h
    by_cases g : gainB P I L H = false
    · rw [if_pos g] at h; exact absurd h (by decide)
    · simp [gainB] at g; omega
  unfold stS stU
  rw [if_pos h, if_pos h, Int.sub_self]
  constructor
  · simp [ctlS, ctlU, clamp]; decide
  · simp [ctlU, clamp]
end Go.Proofs.Ytafeblmddhlcaaa
