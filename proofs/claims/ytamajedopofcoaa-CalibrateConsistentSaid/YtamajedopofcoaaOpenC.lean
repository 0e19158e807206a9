/-
  Changes that came in, opened. No condition.
-/
import Derived.Test.YtamajedopofcoaaOpenP
set_option linter.unusedVariables false
set_option linter.unusedSimpArgs false
namespace Go.Proofs.Ytamajedopofcoaa
open Go.RowKit
section
open Go.ChangeShapes Go.WideShapes Go.ChangeAt
variable {H : Type} {enc : TypeId × Value → H} {w : World} {base : Nat} {spare : Nat → Bool} {held : Bool}
theorem open_patches {r : Reach} {b0 : Nat} {v : Value} {d : DataW H} {p : List MemPlace} (hv : Value.okWide Try.prog w r b0 23 v) (h : DataW.Trod enc Try.prog w base spare held 23 v d p) :
    ∃ (A : Option Addr) (n c : Nat) (ch : List (Int × Int)), v = .slice A n c ∧ ch.length = n ∧ n ≤ c ∧ Ik .i64 w A (flat ch) := by
  obtain ⟨A', len', cap', rfl⟩ := okWide_slice Try.underlying23 hv
  obtain ⟨fuel, hf⟩ := h
  obtain ⟨A, n, c, ch, hc, r⟩ := cells_patches hf
  exact ⟨A, n, c, ch, by simpa [Value.cells] using hc, r⟩
end
end Go.Proofs.Ytamajedopofcoaa
