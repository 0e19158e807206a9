/-
  A state of the mixture control opened, field by field and cell by cell. No condition.
-/
import Derived.Test.YtemfjikiopcgpaaValid
set_option linter.unusedVariables false
set_option linter.unusedSimpArgs false
namespace Go.Proofs.Ytemfjikiopcgpaa
open Go.ChangeShapes Go.WideShapes Go.ChangeAt Go.RowKit Go.Deep Go.Joins
theorem open_probe {H : Type} {enc : TypeId × Value → H} {w : World} {base : Nat} {spare : Nat → Bool} {held : Bool} {r0 : Reach} {b0 : Nat} {v : Value} {d : DataW H} {p : List MemPlace}
    (hv : Value.okWide Try.prog w r0 b0 24 v) (h : DataW.Trod enc Try.prog w base spare held 24 v d p) :
    ∃ (a r : Bool) (F W : Int) (A : Option Addr) (n cap : Nat) (f g : Nat → Int), v = .agg #[.bool a, .bool r, .int .i64 F, .int .i64 W, .slice A n cap] ∧ n ≤ cap ∧ cap ≤ maxLen ∧ (Lit.int .i64 F).wf = true ∧ (Lit.int .i64 W).wf = true ∧ Cls w A n f g := by
  have hE2 : Try.prog.cellsOf 52 = 2 := by kernel_rfl
  obtain ⟨cs, rfl, hl, hf⟩ := open_agg Try.underlying24 (by kernel_rfl) (by kernel_rfl) hv h
  obtain ⟨a, e0⟩ := field_bool hf 0 rfl Try.underlying4
  obtain ⟨r, e1⟩ := field_bool hf 1 rfl Try.underlying4
  obtain ⟨F, e2, wF⟩ := field_int hf 2 rfl Try.underlying3
  obtain ⟨W, e3, wW⟩ := field_int hf 3 rfl Try.underlying3
  obtain ⟨c, y, n, e4, ht⟩ := hf 4 _ rfl
  obtain ⟨A, len, cap, E, hc, hlc, hm, hn, hE, hcell⟩ := open_cells Try.underlying22 ht
  obtain rfl : c = .slice A len cap := by simpa using hc
  obtain rfl : cs = [.bool a, .bool r, .int .i64 F, .int .i64 W, .slice A len cap] := list_of5 hl e0 e1 e2 e3 e4
  have hx : ∀ k, ∃ x : Int × Int, k < len → (E k)[0]? = some (.int .i64 x.1) ∧ (E k)[1]? = some (.int .i64 x.2) := fun k => by
    by_cases hk : k < len
    · obtain ⟨hlen, n, y, hy⟩ := hE k hk
      obtain ⟨_, hf⟩ := elem_agg Try.underlying52 (by kernel_rfl) (by kernel_rfl) hlen hy
      obtain ⟨x0, e0, _⟩ := field_int hf 0 rfl Try.underlying3
      obtain ⟨x1, e1, _⟩ := field_int hf 1 rfl Try.underlying3
      exact ⟨(x0, x1), fun _ => ⟨e0, e1⟩⟩
    · exact ⟨(0, 0), fun h => absurd h hk⟩
  refine ⟨a, r, F, W, A, len, cap, fun k => (Classical.choose (hx k)).1, fun k => (Classical.choose (hx k)).2, rfl, hlc, hm, wF, wW, fun h0 => ?_⟩
  obtain ⟨b, off, hA, hb, hat⟩ := hcell h0 (by rw [hE2]; omega)
  refine ⟨b, off, hA, hb, fun k hk => ?_⟩
  obtain ⟨h0, h1⟩ := Classical.choose_spec (hx k) hk
  have c0 := hat k 0 _ hk h0
  have c1 := hat k 1 _ hk h1
  rw [hE2] at c0 c1
  exact ⟨by simpa using c0, by simpa [Nat.add_assoc] using c1⟩
end Go.Proofs.Ytemfjikiopcgpaa
