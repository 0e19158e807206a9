/-
  Arguments opened to what the walks take: a struct of one-cell fields by value, field by field; a slice of elements of any make, cell by cell. No condition.
-/
import Derived.Test.YtamajedopofcoaaZFrame
import Derived.Deep.Slices
import Derived.Deep.Fields
import Derived.Lib.SmallJoins
set_option linter.unusedVariables false
namespace Go.Proofs.Ytamajedopofcoaa
open Go.ChangeShapes Go.WideShapes Go.ChangeAt Go.RowKit Go.Deep Go.Joins
theorem cell_lt {w : World} {a : Addr} {v : Value} (h : w.cell? a = some v) : a.block < w.heap.size ∧ a.spot = none := by
  unfold World.cell? at h
  split at h
  · rename_i hh
    refine ⟨(Array.getElem?_eq_some_iff.1 hh).1, ?_⟩
    cases hs : a.spot
    · rfl
    · simp [hs] at h
  · cases h
theorem list_of1 {l : List Value} {a0 : Value} (h : l.length = 1) (h0 : l[0]? = some a0) : l = [a0] := by
  match l, h with
  | [x0], _ => simp at h0; simp [h0]
theorem list_of2 {l : List Value} {a0 a1 : Value} (h : l.length = 2) (h0 : l[0]? = some a0) (h1 : l[1]? = some a1) : l = [a0, a1] := by
  match l, h with
  | [x0, x1], _ => simp at h0 h1; simp [h0, h1]
theorem list_of3 {l : List Value} {a0 a1 a2 : Value} (h : l.length = 3) (h0 : l[0]? = some a0) (h1 : l[1]? = some a1) (h2 : l[2]? = some a2) : l = [a0, a1, a2] := by
  match l, h with
  | [x0, x1, x2], _ => simp at h0 h1 h2; simp [h0, h1, h2]
theorem list_of4 {l : List Value} {a0 a1 a2 a3 : Value} (h : l.length = 4) (h0 : l[0]? = some a0) (h1 : l[1]? = some a1) (h2 : l[2]? = some a2) (h3 : l[3]? = some a3) : l = [a0, a1, a2, a3] := by
  match l, h with
  | [x0, x1, x2, x3], _ => simp at h0 h1 h2 h3; simp [h0, h1, h2, h3]
theorem list_of5 {l : List Value} {a0 a1 a2 a3 a4 : Value} (h : l.length = 5) (h0 : l[0]? = some a0) (h1 : l[1]? = some a1) (h2 : l[2]? = some a2) (h3 : l[3]? = some a3) (h4 : l[4]? = some a4) : l = [a0, a1, a2, a3, a4] := by
  match l, h with
  | [x0, x1, x2, x3, x4], _ => simp at h0 h1 h2 h3 h4; simp [h0, h1, h2, h3, h4]
theorem list_of6 {l : List Value} {a0 a1 a2 a3 a4 a5 : Value} (h : l.length = 6) (h0 : l[0]? = some a0) (h1 : l[1]? = some a1) (h2 : l[2]? = some a2) (h3 : l[3]? = some a3) (h4 : l[4]? = some a4) (h5 : l[5]? = some a5) : l = [a0, a1, a2, a3, a4, a5] := by
  match l, h with
  | [x0, x1, x2, x3, x4, x5], _ => simp at h0 h1 h2 h3 h4 h5; simp [h0, h1, h2, h3, h4, h5]
theorem list_of7 {l : List Value} {a0 a1 a2 a3 a4 a5 a6 : Value} (h : l.length = 7) (h0 : l[0]? = some a0) (h1 : l[1]? = some a1) (h2 : l[2]? = some a2) (h3 : l[3]? = some a3) (h4 : l[4]? = some a4) (h5 : l[5]? = some a5) (h6 : l[6]? = some a6) : l = [a0, a1, a2, a3, a4, a5, a6] := by
  match l, h with
  | [x0, x1, x2, x3, x4, x5, x6], _ => simp at h0 h1 h2 h3 h4 h5 h6; simp [h0, h1, h2, h3, h4, h5, h6]
theorem list_of8 {l : List Value} {a0 a1 a2 a3 a4 a5 a6 a7 : Value} (h : l.length = 8) (h0 : l[0]? = some a0) (h1 : l[1]? = some a1) (h2 : l[2]? = some a2) (h3 : l[3]? = some a3) (h4 : l[4]? = some a4) (h5 : l[5]? = some a5) (h6 : l[6]? = some a6) (h7 : l[7]? = some a7) : l = [a0, a1, a2, a3, a4, a5, a6, a7] := by
  match l, h with
  | [x0, x1, x2, x3, x4, x5, x6, x7], _ => simp at h0 h1 h2 h3 h4 h5 h6 h7; simp [h0, h1, h2, h3, h4, h5, h6, h7]
theorem list_of9 {l : List Value} {a0 a1 a2 a3 a4 a5 a6 a7 a8 : Value} (h : l.length = 9) (h0 : l[0]? = some a0) (h1 : l[1]? = some a1) (h2 : l[2]? = some a2) (h3 : l[3]? = some a3) (h4 : l[4]? = some a4) (h5 : l[5]? = some a5) (h6 : l[6]? = some a6) (h7 : l[7]? = some a7) (h8 : l[8]? = some a8) : l = [a0, a1, a2, a3, a4, a5, a6, a7, a8] := by
  match l, h with
  | [x0, x1, x2, x3, x4, x5, x6, x7, x8], _ => simp at h0 h1 h2 h3 h4 h5 h6 h7 h8; simp [h0, h1, h2, h3, h4, h5, h6, h7, h8]
section
variable {H : Type} {enc : TypeId × Value → H} {P : Program} {w : World} {base : Nat} {spare : Nat → Bool} {held : Bool}
theorem open_agg {r : Reach} {b0 : Nat} {t : TypeId} {fs : Array Field} {v : Value} {d : DataW H} {p : List MemPlace} (hs : P.underlying t = some (.struct fs)) (hone : oneCellFields P fs = true) (hC : P.cellsOf t = fs.size)
    (hv : Value.okWide P w r b0 t v) (h : DataW.Trod enc P w base spare held t v d p) :
    ∃ cs : List Value, v = .agg cs.toArray ∧ cs.length = fs.size ∧ ∀ (j : Nat) (f : Field), fs[j]? = some f → ∃ (c : Value) (y : DataW H × List MemPlace) (n : Nat), cs[j]? = some c ∧ DataW.trod enc P w base spare held n f.type [c] = some y := by
  obtain ⟨cs, rfl, hsz⟩ := okWide_struct hs hv
  obtain ⟨l⟩ := cs
  obtain ⟨fuel, hf⟩ := h
  obtain ⟨xs, n, _, hx, _, hlen, hg⟩ := DataW.trod_struct hs hf
  have hl : l.length = fs.size := hsz.trans hC
  refine ⟨l, rfl, hl, fun j f hj => ?_⟩
  obtain ⟨ho, hk⟩ := hone_of hone j f hj
  have hjl : j < fs.size := (Array.getElem?_eq_some_iff.1 hj).1
  have h1 := hg j f hj
  simp only [Value.cells] at h1
  rw [ho, hk] at h1
  have e : (l.drop j).take 1 = [l[j]'(by omega)] := by
    rw [List.drop_eq_getElem_cons (by omega)]
    rfl
  rw [e] at h1
  have hxs : xs[j]? = some (xs[j]'(by omega)) := List.getElem?_eq_getElem (by omega)
  exact ⟨_, _, n, List.getElem?_eq_getElem (by omega), h1.trans hxs⟩
theorem field_int {cs : List Value} {fs : Array Field} (hf : ∀ (j : Nat) (f : Field), fs[j]? = some f → ∃ (c : Value) (y : DataW H × List MemPlace) (n : Nat), cs[j]? = some c ∧ DataW.trod enc P w base spare held n f.type [c] = some y)
    (j : Nat) {f : Field} {k : IntKind} (hj : fs[j]? = some f) (hu : P.underlying f.type = some (.int k)) : ∃ x : Int, cs[j]? = some (.int k x) ∧ (Lit.int k x).wf = true := by
  obtain ⟨c, y, n, hc, ht⟩ := hf j f hj
  obtain ⟨x, e, _, hw⟩ := DataW.trod_int hu ht
  obtain rfl : c = .int k x := by simpa using e
  exact ⟨x, hc, hw⟩
theorem field_bool {cs : List Value} {fs : Array Field} (hf : ∀ (j : Nat) (f : Field), fs[j]? = some f → ∃ (c : Value) (y : DataW H × List MemPlace) (n : Nat), cs[j]? = some c ∧ DataW.trod enc P w base spare held n f.type [c] = some y)
    (j : Nat) {f : Field} (hj : fs[j]? = some f) (hu : P.underlying f.type = some .bool) : ∃ x : Bool, cs[j]? = some (.bool x) := by
  obtain ⟨c, y, n, hc, ht⟩ := hf j f hj
  obtain ⟨x, e, _⟩ := DataW.trod_bool hu ht
  obtain rfl : c = .bool x := by simpa using e
  exact ⟨x, hc⟩
/-- what is known of a struct's cells inside a slice: the same readings -/
theorem elem_agg {t : TypeId} {fs : Array Field} {cs : List Value} {n : Nat} {y : DataW H × List MemPlace} (hs : P.underlying t = some (.struct fs)) (hone : oneCellFields P fs = true) (hC : P.cellsOf t = fs.size) (hcs : cs.length = P.cellsOf t)
    (h : DataW.trod enc P w base spare held n t cs = some y) :
    cs.length = fs.size ∧ ∀ (j : Nat) (f : Field), fs[j]? = some f → ∃ (c : Value) (y : DataW H × List MemPlace) (n : Nat), cs[j]? = some c ∧ DataW.trod enc P w base spare held n f.type [c] = some y := by
  obtain ⟨xs, n, _, hx, _, hlen, hg⟩ := DataW.trod_struct hs h
  have hl : cs.length = fs.size := hcs.trans hC
  refine ⟨hl, fun j f hj => ?_⟩
  obtain ⟨ho, hk⟩ := hone_of hone j f hj
  have hjl : j < fs.size := (Array.getElem?_eq_some_iff.1 hj).1
  have h1 := hg j f hj
  rw [ho, hk] at h1
  have e : (cs.drop j).take 1 = [cs[j]'(by omega)] := by
    rw [List.drop_eq_getElem_cons (by omega)]
    rfl
  rw [e] at h1
  have hxs : xs[j]? = some (xs[j]'(by omega)) := List.getElem?_eq_getElem (by omega)
  exact ⟨_, _, n, List.getElem?_eq_getElem (by omega), h1.trans hxs⟩
/-- one cell that reads as a slice: its elements, cell by cell -/
theorem open_cells {t e : TypeId} {fuel : Nat} {cs : List Value} {x : DataW H × List MemPlace} (ht : P.underlying t = some (.slice e)) (h : DataW.trod enc P w base spare held fuel t cs = some x) :
    ∃ (A : Option Addr) (len cap : Nat) (E : Nat → List Value), cs = [.slice A len cap] ∧ len ≤ cap ∧ cap ≤ maxLen ∧ (A = none → len = 0 ∧ cap = 0) ∧
      (∀ i, i < len → (E i).length = P.cellsOf e ∧ ∃ n y, DataW.trod enc P w base spare held n e (E i) = some y) ∧
      (0 < len → 0 < P.cellsOf e → ∃ b off, A = some ⟨b, off, none⟩ ∧ b < w.heap.size ∧ ∀ i j u, i < len → (E i)[j]? = some u → w.cell? ⟨b, off + (i * P.cellsOf e + j), none⟩ = some u) := by
  rcases open_slice ht h with ⟨hc, _⟩ | ⟨a, len, cap, m, n, D, Pl, hcs, hb, hl, hm, hmm, hx, hi⟩
  · exact ⟨none, 0, 0, fun _ => [], hc, Nat.le_refl _, by simp [maxLen], fun _ => ⟨rfl, rfl⟩, fun i hi => absurd hi (Nat.not_lt_zero _), fun h => absurd h (Nat.not_lt_zero _)⟩
  · have hml : len ≤ m := by rw [hmm]; split <;> omega
    obtain ⟨E, hE⟩ := choose_lt (n := len) (p := fun i cs' => w.cells? base (a.add (i * P.cellsOf e)) (P.cellsOf e) = some cs' ∧ DataW.trod enc P w base spare held n e cs' = some (D i, Pl i)) (fun i hil => hi i (by omega))
    refine ⟨some a, len, cap, E, hcs, hl, hm, (fun h => by cases h), fun i hil => ⟨(World.cells?_some (hE i hil).1).2.1, n, _, (hE i hil).2⟩, fun h0 hk => ?_⟩
    have hcell : ∀ i j u, i < len → (E i)[j]? = some u → w.cell? (a.add (i * P.cellsOf e + j)) = some u := fun i j u hil hj => by
      obtain ⟨_, hlen, hat⟩ := World.cells?_some (hE i hil).1
      have hjl : j < P.cellsOf e := by rw [← hlen]; exact (List.getElem?_eq_some_iff.1 hj).1
      rw [← Go.Deep.add_add, hat j hjl, hj]
    have hlen0 := (World.cells?_some (hE 0 h0).1).2.1
    have h00 : (E 0)[0]? = some ((E 0)[0]'(by omega)) := List.getElem?_eq_getElem (by omega)
    have hc0 := hcell 0 0 _ h0 h00
    have ha : a.add (0 * P.cellsOf e + 0) = a := by simp [Addr.add]
    rw [ha] at hc0
    obtain ⟨h1, h2⟩ := cell_lt hc0
    obtain ⟨b, off, spot⟩ := a
    simp only at h2
    subst h2
    exact ⟨b, off, rfl, h1, fun i j u hil hj => by rw [← add_plain]; exact hcell i j u hil hj⟩
theorem open_sl {r : Reach} {b0 : Nat} {t e : TypeId} {v : Value} {d : DataW H} {p : List MemPlace} (ht : P.underlying t = some (.slice e)) (hv : Value.okWide P w r b0 t v) (h : DataW.Trod enc P w base spare held t v d p) :
    ∃ (A : Option Addr) (len cap : Nat) (E : Nat → List Value), v = .slice A len cap ∧ len ≤ cap ∧ cap ≤ maxLen ∧ (A = none → len = 0 ∧ cap = 0) ∧
      (∀ i, i < len → (E i).length = P.cellsOf e ∧ ∃ n y, DataW.trod enc P w base spare held n e (E i) = some y) ∧
      (0 < len → 0 < P.cellsOf e → ∃ b off, A = some ⟨b, off, none⟩ ∧ b < w.heap.size ∧ ∀ i j u, i < len → (E i)[j]? = some u → w.cell? ⟨b, off + (i * P.cellsOf e + j), none⟩ = some u) := by
  obtain ⟨A', len', cap', rfl⟩ := okWide_slice ht hv
  obtain ⟨fuel, hf⟩ := h
  obtain ⟨A, len, cap, E, hc, r⟩ := open_cells ht hf
  exact ⟨A, len, cap, E, by simpa [Value.cells] using hc, r⟩
/-- a slice of numbers -/
def Ints (k : IntKind) (w : World) (A : Option Addr) (len : Nat) (f : Nat → Int) : Prop :=
  0 < len → ∃ b off, A = some ⟨b, off, none⟩ ∧ b < w.heap.size ∧ ∀ i, i < len → w.cell? ⟨b, off + i, none⟩ = some (.int k (f i))
theorem open_int_sl {r : Reach} {b0 : Nat} {t e : TypeId} {k : IntKind} {v : Value} {d : DataW H} {p : List MemPlace} (ht : P.underlying t = some (.slice e)) (he : P.underlying e = some (.int k)) (hC : P.cellsOf e = 1)
    (hv : Value.okWide P w r b0 t v) (h : DataW.Trod enc P w base spare held t v d p) :
    ∃ (A : Option Addr) (len cap : Nat) (f : Nat → Int), v = .slice A len cap ∧ len ≤ cap ∧ cap ≤ maxLen ∧ (A = none → len = 0 ∧ cap = 0) ∧ (∀ i, (Lit.int k (f i)).wf = true) ∧ Ints k w A len f := by
  obtain ⟨A, len, cap, E, hv', hl, hm, hn, hE, hc⟩ := open_sl ht hv h
  have hx : ∀ i, ∃ x : Int, (Lit.int k x).wf = true ∧ (i < len → E i = [.int k x]) := fun i => by
    by_cases hi : i < len
    · obtain ⟨hlen, n, y, hy⟩ := hE i hi
      obtain ⟨x, e', _, hw⟩ := DataW.trod_int he hy
      exact ⟨x, hw, fun _ => e'⟩
    · exact ⟨0, by cases k <;> decide, fun h => absurd h hi⟩
  refine ⟨A, len, cap, fun i => Classical.choose (hx i), hv', hl, hm, hn, fun i => (Classical.choose_spec (hx i)).1, fun h0 => ?_⟩
  obtain ⟨b, off, hA, hb, hcell⟩ := hc h0 (by rw [hC]; exact Nat.one_pos)
  refine ⟨b, off, hA, hb, fun i hi => ?_⟩
  have := hcell i 0 _ hi (by rw [(Classical.choose_spec (hx i)).2 hi]; rfl)
  rw [hC] at this
  simpa using this
end
end Go.Proofs.Ytamajedopofcoaa
