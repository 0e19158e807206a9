/-
  A slice of pairs of numbers opened, cell by cell. No condition.
-/
import Derived.Test.YtpkeghklfbpmhaaRun
import Derived.Test.YtpkeghklfbpmhaaOpen
set_option linter.unusedVariables false
namespace Go.Proofs.Ytpkeghklfbpmhaa
open Go.ChangeShapes Go.WideShapes Go.ChangeAt Go.RowKit Go.Deep Go.Joins
theorem arr_at {H : Type} {enc : TypeId × Value → H} {P : Program} {w : World} {base : Nat} {spare : Nat → Bool} {held : Bool} {i m : Nat} {j : Nat} {cs : List Value} {xs : List (DataW H × List MemPlace)} (hi : P.underlying i = some (.int .i64)) (hC : P.cellsOf i = 1) (hl : cs.length = 2) (hx : xs.length = 2) (hj : j < 2)
    (h : DataW.trod enc P w base spare held m i ((cs.drop (j * P.cellsOf i)).take (P.cellsOf i)) = xs[j]?) : ∃ x : Int, cs[j]? = some (.int .i64 x) := by
  rw [hC] at h
  have e : (cs.drop (j * 1)).take 1 = [cs[j]'(by omega)] := by
    rw [Nat.mul_one, List.drop_eq_getElem_cons (by omega)]
    rfl
  rw [e, List.getElem?_eq_getElem (by omega)] at h
  obtain ⟨x, hx', _, _⟩ := DataW.trod_int hi h
  exact ⟨x, by rw [List.getElem?_eq_getElem (by omega)]; simpa using hx'⟩
theorem open_pairs {H : Type} {enc : TypeId × Value → H} {P : Program} {w : World} {base : Nat} {spare : Nat → Bool} {held : Bool} {r : Reach} {b0 : Nat} {t e i : TypeId} {v : Value} {d : DataW H} {p : List MemPlace} (ht : P.underlying t = some (.slice e)) (he : P.underlying e = some (.array 2 i)) (hi : P.underlying i = some (.int .i64)) (hC : P.cellsOf i = 1) (hE : P.cellsOf e = 2)
    (hv : Value.okWide P w r b0 t v) (h : DataW.Trod enc P w base spare held t v d p) :
    ∃ (A : Option Addr) (len cap : Nat) (f g : Nat → Int), v = .slice A len cap ∧ len ≤ cap ∧ cap ≤ maxLen ∧ Pairs w A len f g := by
  obtain ⟨A, len, cap, E, hv', hl, hm, hn, hEl, hc⟩ := open_sl ht hv h
  have hx : ∀ k, ∃ xy : Int × Int, k < len → (E k)[0]? = some (.int .i64 xy.1) ∧ (E k)[1]? = some (.int .i64 xy.2) := fun k => by
    by_cases hk : k < len
    · obtain ⟨hlen, n, y, hy⟩ := hEl k hk
      obtain ⟨xs, m, _, _, _, hxl, hat⟩ := DataW.trod_array he hy
      rw [hE] at hlen
      obtain ⟨a, ha⟩ := arr_at hi hC hlen hxl (by omega : 0 < 2) (hat 0 (by omega))
      obtain ⟨b, hb⟩ := arr_at hi hC hlen hxl (by omega : 1 < 2) (hat 1 (by omega))
      exact ⟨(a, b), fun _ => ⟨ha, hb⟩⟩
    · exact ⟨(0, 0), fun h => absurd h hk⟩
  refine ⟨A, len, cap, fun k => (Classical.choose (hx k)).1, fun k => (Classical.choose (hx k)).2, hv', hl, hm, fun h0 => ?_⟩
  obtain ⟨b, off, hA, hb, hcell⟩ := hc h0 (by rw [hE]; omega)
  refine ⟨b, off, hA, hb, fun k hk => ?_⟩
  obtain ⟨h1, h2⟩ := Classical.choose_spec (hx k) hk
  have c1 := hcell k 0 _ hk h1
  have c2 := hcell k 1 _ hk h2
  rw [hE] at c1 c2
  exact ⟨by simpa using c1, by simpa [Nat.add_assoc] using c2⟩
end Go.Proofs.Ytpkeghklfbpmhaa
