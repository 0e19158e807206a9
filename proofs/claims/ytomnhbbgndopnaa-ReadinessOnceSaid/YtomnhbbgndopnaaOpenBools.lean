/-
  A slice of bools opened, cell by cell. No condition.
-/
import Derived.Test.YtomnhbbgndopnaaOpen
set_option linter.unusedVariables false
namespace Go.Proofs.Ytomnhbbgndopnaa
open Go.ChangeShapes Go.WideShapes Go.ChangeAt Go.RowKit Go.Deep Go.Joins
theorem open_bool_sl {H : Type} {enc : TypeId × Value → H} {P : Program} {w : World} {base : Nat} {spare : Nat → Bool} {held : Bool} {r : Reach} {b0 : Nat} {t e : TypeId} {v : Value} {d : DataW H} {p : List MemPlace} (ht : P.underlying t = some (.slice e)) (he : P.underlying e = some .bool) (hC : P.cellsOf e = 1)
    (hv : Value.okWide P w r b0 t v) (h : DataW.Trod enc P w base spare held t v d p) :
    ∃ (A : Option Addr) (len cap : Nat) (f : Nat → Bool), v = .slice A len cap ∧ len ≤ cap ∧ cap ≤ maxLen ∧
      (0 < len → ∃ b off, A = some ⟨b, off, none⟩ ∧ b < w.heap.size ∧ ∀ i, i < len → w.cell? ⟨b, off + i, none⟩ = some (.bool (f i))) := by
  obtain ⟨A, len, cap, E, hv', hl, hm, hn, hE, hc⟩ := open_sl ht hv h
  have hx : ∀ i, ∃ x : Bool, i < len → E i = [.bool x] := fun i => by
    by_cases hi : i < len
    · obtain ⟨hlen, n, y, hy⟩ := hE i hi
      obtain ⟨x, e', _⟩ := DataW.trod_bool he hy
      exact ⟨x, fun _ => e'⟩
    · exact ⟨false, fun h => absurd h hi⟩
  refine ⟨A, len, cap, fun i => Classical.choose (hx i), hv', hl, hm, fun h0 => ?_⟩
  obtain ⟨b, off, hA, hb, hcell⟩ := hc h0 (by rw [hC]; exact Nat.one_pos)
  refine ⟨b, off, hA, hb, fun i hi => ?_⟩
  have := hcell i 0 _ hi (by rw [(Classical.choose_spec (hx i)) hi]; rfl)
  rw [hC] at this
  simpa using this
end Go.Proofs.Ytomnhbbgndopnaa
