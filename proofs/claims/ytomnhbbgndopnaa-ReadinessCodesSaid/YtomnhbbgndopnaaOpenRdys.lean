/-
  A slice of readinesses opened, cell by cell. No condition.
-/
import Derived.Test.YtomnhbbgndopnaaCode
set_option linter.unusedVariables false
namespace Go.Proofs.Ytomnhbbgndopnaa
open Go.ChangeShapes Go.WideShapes Go.ChangeAt Go.RowKit Go.Deep Go.Joins
theorem open_rdys {H : Type} {enc : TypeId × Value → H} {w : World} {base : Nat} {spare : Nat → Bool} {held : Bool} {r : Reach} {b0 : Nat} {v : Value} {d : DataW H} {p : List MemPlace}
    (hv : Value.okWide Try.prog w r b0 33 v) (h : DataW.Trod enc Try.prog w base spare held 33 v d p) :
    ∃ (A : Option Addr) (len cap : Nat) (D R : Nat → Bool) (N M : Nat → Int), v = .slice A len cap ∧ len ≤ cap ∧ cap ≤ maxLen ∧ Rdys w A len D R N M := by
  have hE4 : Try.prog.cellsOf 26 = 4 := by kernel_rfl
  obtain ⟨A, len, cap, E, hv', hl, hm, hn, hE, hc⟩ := open_sl Try.underlying33 hv h
  have hx : ∀ k, ∃ x : Bool × Bool × Int × Int, k < len → (E k)[0]? = some (.bool x.1) ∧ (E k)[1]? = some (.bool x.2.1) ∧ (E k)[2]? = some (.int .i64 x.2.2.1) ∧ (E k)[3]? = some (.int .i64 x.2.2.2) := fun k => by
    by_cases hk : k < len
    · obtain ⟨hlen, n, y, hy⟩ := hE k hk
      obtain ⟨_, hf⟩ := elem_agg Try.underlying26 (by kernel_rfl) (by kernel_rfl) hlen hy
      obtain ⟨x0, e0⟩ := field_bool hf 0 rfl Try.underlying4
      obtain ⟨x1, e1⟩ := field_bool hf 1 rfl Try.underlying4
      obtain ⟨x2, e2, _⟩ := field_int hf 2 rfl Try.underlying3
      obtain ⟨x3, e3, _⟩ := field_int hf 3 rfl Try.underlying3
      exact ⟨(x0, x1, x2, x3), fun _ => ⟨e0, e1, e2, e3⟩⟩
    · exact ⟨(false, false, 0, 0), fun h => absurd h hk⟩
  refine ⟨A, len, cap, fun k => (Classical.choose (hx k)).1, fun k => (Classical.choose (hx k)).2.1, fun k => (Classical.choose (hx k)).2.2.1, fun k => (Classical.choose (hx k)).2.2.2, hv', hl, hm, fun h0 => ?_⟩
  obtain ⟨b, off, hA, hb, hcell⟩ := hc h0 (by rw [hE4]; omega)
  refine ⟨b, off, hA, hb, fun k hk => ?_⟩
  obtain ⟨h0, h1, h2, h3⟩ := Classical.choose_spec (hx k) hk
  have c0 := hcell k 0 _ hk h0
  have c1 := hcell k 1 _ hk h1
  have c2 := hcell k 2 _ hk h2
  have c3 := hcell k 3 _ hk h3
  rw [hE4] at c0 c1 c2 c3
  exact ⟨by simpa using c0, by simpa [Nat.add_assoc] using c1, by simpa [Nat.add_assoc] using c2, by simpa [Nat.add_assoc] using c3⟩
end Go.Proofs.Ytomnhbbgndopnaa
