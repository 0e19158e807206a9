/-
  A receiver and a sender that came in, opened. No condition.
-/
import Derived.Test.YtfjeediecmhedaaOpenBytes
set_option linter.unusedVariables false
set_option linter.unusedSimpArgs false
namespace Go.Proofs.Ytfjeediecmhedaa
open Go.ChangeShapes Go.WideShapes Go.ChangeAt Go.RowKit
section
variable {H : Type} {enc : TypeId × Value → H} {w : World} {base : Nat} {spare : Nat → Bool} {held : Bool}
theorem field_bytes {cs : List Value} {fs : Array Field} (hf : ∀ (j : Nat) (f : Field), fs[j]? = some f → ∃ (c : Value) (y : DataW H × List MemPlace) (n : Nat), cs[j]? = some c ∧ DataW.trod enc Try.prog w base spare held n f.type [c] = some y)
    (j : Nat) {f : Field} (hj : fs[j]? = some f) (hu : f.type = 22) : ∃ (A : Option Addr) (n c : Nat) (l : List Int), cs[j]? = some (.slice A n c) ∧ l.length = n ∧ n ≤ c ∧ Bt w A l ∧ Byt l := by
  obtain ⟨v, y, n, hc, ht⟩ := hf j f hj
  rw [hu] at ht
  obtain ⟨A, len, cap, E, hv, hl, hm, hn, hE, hcell⟩ := open_cells Try.underlying22 ht
  obtain rfl : v = .slice A len cap := by simpa using hv
  have hC : Try.prog.cellsOf 5 = 1 := by kernel_rfl
  have hx : ∀ i, ∃ x : Int, (Lit.int .u8 x).wf = true ∧ (i < len → E i = [.int .u8 x]) := fun i => by
    by_cases hi : i < len
    · obtain ⟨_, n, y, hy⟩ := hE i hi
      obtain ⟨x, e', _, hw⟩ := DataW.trod_int Try.underlying5 hy
      exact ⟨x, hw, fun _ => e'⟩
    · exact ⟨0, by decide, fun h => absurd h hi⟩
  refine ⟨A, len, cap, lst len (fun i => Classical.choose (hx i)), hc, lst_len _ _, hl, lst_bt (fun h0 => ?_), lst_byt (fun i => (Classical.choose_spec (hx i)).1)⟩
  obtain ⟨b, off, hA, hb, hcell⟩ := hcell h0 (by rw [hC]; exact Nat.one_pos)
  refine ⟨b, off, hA, hb, fun i hi => ?_⟩
  have := hcell i 0 _ hi (by rw [(Classical.choose_spec (hx i)).2 hi]; rfl)
  rw [hC] at this
  simpa using this
theorem open_recv {r : Reach} {b0 : Nat} {v : Value} {d : DataW H} {p : List MemPlace} (hv : Value.okWide Try.prog w r b0 30 v) (h : DataW.Trod enc Try.prog w base spare held 30 v d p) :
    ∃ (A : Option Addr) (n c : Nat) (l : List Int) (x1 x2 x3 x4 : Int) (y5 y6 : Bool) (x7 : Int) (y8 : Bool), v = .agg #[.slice A n c, .int .i64 x1, .int .i64 x2, .int .i64 x3, .int .i64 x4, .bool y5, .bool y6, .int .i64 x7, .bool y8] ∧ l.length = n ∧ n ≤ c ∧ Bt w A l ∧ Byt l := by
  obtain ⟨cs, rfl, hl, hf⟩ := open_agg Try.underlying30 (by kernel_rfl) (by kernel_rfl) hv h
  obtain ⟨A, n, c, l, e0, hln, hc, hb, hB⟩ := field_bytes hf 0 rfl rfl
  obtain ⟨x1, e1, _⟩ := field_int hf 1 rfl Try.underlying3
  obtain ⟨x2, e2, _⟩ := field_int hf 2 rfl Try.underlying3
  obtain ⟨x3, e3, _⟩ := field_int hf 3 rfl Try.underlying3
  obtain ⟨x4, e4, _⟩ := field_int hf 4 rfl Try.underlying3
  obtain ⟨y5, e5⟩ := field_bool hf 5 rfl Try.underlying4
  obtain ⟨y6, e6⟩ := field_bool hf 6 rfl Try.underlying4
  obtain ⟨x7, e7, _⟩ := field_int hf 7 rfl Try.underlying3
  obtain ⟨y8, e8⟩ := field_bool hf 8 rfl Try.underlying4
  obtain rfl := list_of9 hl e0 e1 e2 e3 e4 e5 e6 e7 e8
  exact ⟨A, n, c, l, x1, x2, x3, x4, y5, y6, x7, y8, rfl, hln, hc, hb, hB⟩
theorem open_send {r : Reach} {b0 : Nat} {v : Value} {d : DataW H} {p : List MemPlace} (hv : Value.okWide Try.prog w r b0 40 v) (h : DataW.Trod enc Try.prog w base spare held 40 v d p) :
    ∃ (A : Option Addr) (n c : Nat) (l : List Int) (x1 x2 x3 x4 : Int) (y5 : Bool) (x6 x7 : Int) (y8 : Bool), v = .agg #[.slice A n c, .int .i64 x1, .int .i64 x2, .int .i64 x3, .int .i64 x4, .bool y5, .int .i64 x6, .int .i64 x7, .bool y8] ∧ l.length = n ∧ n ≤ c ∧ Bt w A l ∧ Byt l := by
  obtain ⟨cs, rfl, hl, hf⟩ := open_agg Try.underlying40 (by kernel_rfl) (by kernel_rfl) hv h
  obtain ⟨A, n, c, l, e0, hln, hc, hb, hB⟩ := field_bytes hf 0 rfl rfl
  obtain ⟨x1, e1, _⟩ := field_int hf 1 rfl Try.underlying3
  obtain ⟨x2, e2, _⟩ := field_int hf 2 rfl Try.underlying3
  obtain ⟨x3, e3, _⟩ := field_int hf 3 rfl Try.underlying3
  obtain ⟨x4, e4, _⟩ := field_int hf 4 rfl Try.underlying3
  obtain ⟨y5, e5⟩ := field_bool hf 5 rfl Try.underlying4
  obtain ⟨x6, e6, _⟩ := field_int hf 6 rfl Try.underlying3
  obtain ⟨x7, e7, _⟩ := field_int hf 7 rfl Try.underlying3
  obtain ⟨y8, e8⟩ := field_bool hf 8 rfl Try.underlying4
  obtain rfl := list_of9 hl e0 e1 e2 e3 e4 e5 e6 e7 e8
  exact ⟨A, n, c, l, x1, x2, x3, x4, y5, x6, x7, y8, rfl, hln, hc, hb, hB⟩
end
end Go.Proofs.Ytfjeediecmhedaa
