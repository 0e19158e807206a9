/-
  A slice of bytes that came in, read as a list. No condition.
-/
import Derived.Test.YtfjeediecmhedaaKind
set_option linter.unusedVariables false
set_option linter.unusedSimpArgs false
namespace Go.Proofs.Ytfjeediecmhedaa
open Go.RowKit
def lst (n : Nat) (f : Nat → Int) : List Int := (List.range n).map f
theorem lst_len (n : Nat) (f : Nat → Int) : (lst n f).length = n := by simp [lst]
theorem lst_bt {w : World} {A : Option Addr} {n : Nat} {f : Nat → Int} (h : Ints .u8 w A n f) : Bt w A (lst n f) := fun h0 => by
  rw [lst_len] at h0
  obtain ⟨b, o, rfl, hb, hc⟩ := h h0
  refine ⟨b, o, rfl, hb, fun i x hx => ?_⟩
  have hi : i < n := by
    have := (List.getElem?_eq_some_iff.1 hx).1
    rw [lst_len] at this; exact this
  have e : x = f i := by
    unfold lst at hx
    rw [List.getElem?_map, List.getElem?_range hi] at hx
    simpa using hx.symm
  rw [e]
  exact hc i hi
theorem lst_byt {n : Nat} {f : Nat → Int} (h : ∀ i, (Lit.int .u8 (f i)).wf = true) : Byt (lst n f) := by
  intro x hx
  unfold lst at hx
  obtain ⟨i, _, rfl⟩ := List.mem_map.1 hx
  have := h i
  simp [Lit.wf, IntKind.min, IntKind.max, IntKind.signed, IntKind.bits] at this
  omega
end Go.Proofs.Ytfjeediecmhedaa
