/-
  A slice of frames that the reference's Carry returns; the reference's Send with which it begins. No condition but the slice's shape.
-/
import Derived.Test.YtfjeediecmhedaaCar4
set_option linter.unusedVariables false
set_option linter.unusedSimpArgs false
namespace Go.Proofs.Ytfjeediecmhedaa
open Go.RowKit
/-- a slice of frames -/
def CR (fs : List (List Int)) (w : World) (r : Ending) (w' : World) : Prop :=
  ∃ g m d xs, r = .returned (.slice (some ⟨g, 0, none⟩) m d) ∧ m = fs.length ∧ m ≤ d ∧ w.heap.size ≤ g ∧ g < w'.heap.size ∧ (∀ j u, xs[j]? = some u → w'.cell? ⟨g, j, none⟩ = some u) ∧ Rw w' (fun b => w.heap.size ≤ b) xs fs ∧ Below w.heap.size w w'
/-- a sender and a frame -/
def S2f (s : SS) (fr : List Int) (w : World) (r : Ending) (w' : World) : Prop :=
  ∃ A n c B m d, r = .returned (.tuple #[.agg #[.slice A n c, .int .i64 s.At, .int .i64 s.Nu, .int .i64 s.Bl, .int .i64 s.Se, .bool s.Wt, .int .i64 s.Gp, .int .i64 s.Dl, .bool s.Fl], .slice B m d]) ∧ n = s.l.length ∧ n ≤ c ∧ Bt w' A s.l ∧ Fr w.heap.size A ∧ m = fr.length ∧ m ≤ d ∧ Bt w' B fr ∧ Fr w.heap.size B ∧ Below w.heap.size w w'
theorem S2f_of_SQ {n : Nat} {At Nu Bl Se : Int} {Wt : Bool} {Gp Dl : Int} {Fl : Bool} {l fr : List Int} {w w' : World} {r : Ending} (hl : l.length = n) (h : SQ n At Nu Bl Se Wt Gp Dl Fl l fr w r w') : S2f ⟨l, At, Nu, Bl, Se, Wt, Gp, Dl, Fl⟩ fr w r w' := by
  obtain ⟨A, c, B, m, d, hr, hc, hb, hf, hm, hd, hb2, hf2, hw⟩ := h
  exact ⟨A, n, c, B, m, d, hr, hl.symm, hc, hb, hf, hm, hd, hb2, hf2, hw⟩
theorem send22c (A : Option Addr) (n c : Nat) (l : List Int) (b g : Int) (hl : l.length = n) (hc : n ≤ c) (hm : msgB n = true) :
    ∃ s0 fr, (∀ w, Bt w A l → Calls Try.prog 22 #[.slice A n c, .int .i64 0] w (S2f s0 fr w)) ∧ Inv l b g (2 * n) s0 ∧ fr.length = 8 ∧ allM l b g = fr :: rem l b g (2 * n) s0 ∧ (s0.At < l.length → 0 ≤ s0.Dl) := by
  have ht : timeB 0 = true := by decide
  obtain ⟨m0, m1⟩ : 1 ≤ n ∧ n ≤ 1023 := by simpa [msgB] using hm
  by_cases h7 : n ≤ 7
  · refine ⟨⟨l, n, 0, 0, 0, false, 0, 0, false⟩, pad ((n : Int) :: l), fun w hb => ?_, ⟨rfl, ?_, rfl, ?_, fun h => absurd h (by simp; omega), fun h => absurd h (by simp; omega)⟩, pad_len (by simp; omega), ?_, fun h => absurd h (by simp; omega)⟩
    · refine (rsend22 A n c l 0 w hl hb hc hm ht).mono ?_
      rintro r w' (⟨_, h⟩ | ⟨h, _⟩)
      · exact S2f_of_SQ hl h
      · omega
    · show vS l.length (n : Int) 0 0 0 false 0 0 false = true
      exact vS_mk (by omega) (by omega) (by omega) (by omega) (by omega) (by omega) (by omega) (by omega) (by omega) (by omega) (by omega) (by omega) (by omega) (.inl ⟨by omega, rfl⟩)
    · show (0 : Int) + 1000000 * ((2 * n : Nat) : Int) ≤ 10000000000
      omega
    · unfold allM
      rw [if_pos (by omega)]
      unfold rem
      rw [carM_end _ _ _ _ _ _ _ _ (by simp; omega), hl]
  · refine ⟨⟨l, 6, 1, 0, 0, true, 0, 1000000, false⟩, pad ((16 + (n : Int) / 256) :: ((n : Int) % 256) :: l.take 6), fun w hb => ?_, ⟨rfl, ?_, rfl, ?_, fun _ h => (by cases h), fun _ => ?_⟩, pad_len (by simp; omega), ?_, fun _ => (by show (0 : Int) ≤ 1000000; decide)⟩
    · refine (rsend22 A n c l 0 w hl hb hc hm ht).mono ?_
      rintro r w' (⟨h, _⟩ | ⟨_, h⟩)
      · omega
      · exact S2f_of_SQ hl h
    · show vS l.length 6 1 0 0 true 0 1000000 false = true
      exact vS_mk (by omega) (by omega) (by omega) (by omega) (by omega) (by omega) (by omega) (by omega) (by omega) (by omega) (by omega) (by omega) (by omega) (.inr (by omega))
    · show (1000000 : Int) + 1000000 * ((2 * n : Nat) : Int) ≤ 10000000000
      omega
    · simp; omega
    · unfold allM
      rw [if_neg (by omega), hl]
      rfl
theorem step_len {l : List Int} {b g : Int} {k : Nat} {s : SS} (h : Inv l b g k s) (ha : s.At < l.length) : ∃ j, k = j + 1 := by
  have := h.2.2.2.2.2 ha
  exact ⟨k - 1, by split at this <;> omega⟩
end Go.Proofs.Ytfjeediecmhedaa
