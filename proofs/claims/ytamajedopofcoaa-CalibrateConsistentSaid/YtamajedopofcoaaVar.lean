/-
  Blocks of five cells; pages that a call has made. No condition.
-/
import Derived.Test.YtamajedopofcoaaCln
set_option linter.unusedVariables false
set_option linter.unusedSimpArgs false
namespace Go.Proofs.Ytamajedopofcoaa
open Go.RowKit
/-- a block's cells, none frozen -/
def Cl (P : Nat) (w : World) (vs : List Value) : Prop := P < w.heap.size ∧ ∀ j v, vs[j]? = some v → w.cell? ⟨P, j, none⟩ = some v ∧ w.frozen? ⟨P, j, none⟩ = false
theorem Cl.below {P : Nat} {w w' : World} {vs : List Value} (h : Cl P w vs) (hb : Below w.heap.size w w') : Cl P w' vs :=
  ⟨Nat.lt_of_lt_of_le h.1 hb.size, fun j v e => ⟨((bcell hb).1 _ _ h.1).trans (h.2 j v e).1, ((bcell hb).2 _ _ h.1).trans (h.2 j v e).2⟩⟩
theorem Cl.new {P : Nat} {w : World} (hP : P = w.heap.size) (vs : List Value) (t : TypeId) : Cl P (w.alloc (.cells vs.toArray t)) vs := by
  subst hP
  refine ⟨by simp, fun j v e => ?_⟩
  have h := heap_alloc_new w (.cells vs.toArray t)
  refine ⟨?_, ?_⟩
  · simp only [World.cell?, h]
    simpa using e
  · simp only [World.frozen?, h]
    simp
theorem Cl.far {P b : Nat} {w : World} {vs : List Value} (h : Cl P w vs) (hne : b ≠ P) (o : Nat) (u : Value) : Cl P (w.setCell ⟨b, o, none⟩ u) vs :=
  ⟨by simpa using h.1, fun j v e => ⟨(World.cell?_setCell_far _ _ _ _ hne).trans (h.2 j v e).1, by rw [World.frozen?_setCell]; exact (h.2 j v e).2⟩⟩
theorem Cl.set {P : Nat} {w : World} {vs : List Value} (h : Cl P w vs) (i : Nat) (u : Value) : Cl P (w.setCell ⟨P, i, none⟩ u) (vs.set i u) := by
  refine ⟨by simpa using h.1, fun j v e => ?_⟩
  rw [List.getElem?_set] at e
  by_cases hij : i = j
  · subst hij
    simp only [if_true] at e
    split at e
    · rename_i hl
      have hv : v = u := by simpa using e.symm
      subst hv
      obtain ⟨h1, h2⟩ := h.2 i _ (List.getElem?_eq_getElem hl)
      exact ⟨World.cell?_setCell_same _ _ _ h1, by rw [World.frozen?_setCell]; exact h2⟩
    · cases e
  · rw [if_neg hij] at e
    obtain ⟨h1, h2⟩ := h.2 j v e
    exact ⟨(World.cell?_setCell_other _ _ _ _ (by intro q; injection q with _ q; exact hij q)).trans h1, by rw [World.frozen?_setCell]; exact h2⟩
theorem Cl.c {P : Nat} {w : World} {vs : List Value} (h : Cl P w vs) (j : Nat) {v : Value} (e : vs[j]? = some v) : w.cell? ⟨P, j, none⟩ = some v := (h.2 j v e).1
theorem Cl.f {P : Nat} {w : World} {vs : List Value} (h : Cl P w vs) (j : Nat) {v : Value} (e : vs[j]? = some v) : w.frozen? ⟨P, j, none⟩ = false := (h.2 j v e).2
theorem Cl.set5 {P : Nat} {w : World} {u0 u1 u2 u3 u4 : Value} (h : Cl P w [u0, u1, u2, u3, u4]) (v0 v1 v2 v3 v4 : Value) : Cl P (((((w.setCell ⟨P, 0, none⟩ v0).setCell ⟨P, 1, none⟩ v1).setCell ⟨P, 2, none⟩ v2).setCell ⟨P, 3, none⟩ v3).setCell ⟨P, 4, none⟩ v4) [v0, v1, v2, v3, v4] :=
  (((((h.set 0 v0).set 1 v1).set 2 v2).set 3 v3).set 4 v4)
theorem Cl.far5 {P Q : Nat} {w : World} {us : List Value} (h : Cl Q w us) (hne : P ≠ Q) (v0 v1 v2 v3 v4 : Value) : Cl Q (((((w.setCell ⟨P, 0, none⟩ v0).setCell ⟨P, 1, none⟩ v1).setCell ⟨P, 2, none⟩ v2).setCell ⟨P, 3, none⟩ v3).setCell ⟨P, 4, none⟩ v4) us :=
  (((((h.far hne 0 v0).far hne 1 v1).far hne 2 v2).far hne 3 v3).far hne 4 v4)
theorem below_set5 {w0 w : World} {B P : Nat} (h : Below B w0 w) (hP : B ≤ P) (v0 v1 v2 v3 v4 : Value) : Below B w0 (((((w.setCell ⟨P, 0, none⟩ v0).setCell ⟨P, 1, none⟩ v1).setCell ⟨P, 2, none⟩ v2).setCell ⟨P, 3, none⟩ v3).setCell ⟨P, 4, none⟩ v4) :=
  (((((h.setCell (p := ⟨P, 0, none⟩) hP v0).setCell (p := ⟨P, 1, none⟩) hP v1).setCell (p := ⟨P, 2, none⟩) hP v2).setCell (p := ⟨P, 3, none⟩) hP v3).setCell (p := ⟨P, 4, none⟩) hP v4)
theorem own_set {w : World} {base size n : Nat} {e : TypeId} {v : Value} {xs : List Value} (h : w.ownsRow base e size v n xs) {P : Nat} (hP : P < base) (j : Nat) (u : Value) : (w.setCell ⟨P, j, none⟩ u).ownsRow base e size v n xs :=
  ownsRow_setCell_below h hP _
theorem own_set5 {w : World} {base size n : Nat} {e : TypeId} {v : Value} {xs : List Value} (h : w.ownsRow base e size v n xs) {P : Nat} (hP : P < base) (v0 v1 v2 v3 v4 : Value) : (((((w.setCell ⟨P, 0, none⟩ v0).setCell ⟨P, 1, none⟩ v1).setCell ⟨P, 2, none⟩ v2).setCell ⟨P, 3, none⟩ v3).setCell ⟨P, 4, none⟩ v4).ownsRow base e size v n xs :=
  own_set (own_set (own_set (own_set (own_set h hP 0 v0) hP 1 v1) hP 2 v2) hP 3 v3) hP 4 v4
theorem Kp.mk {w8 W : World} (h : Below w8.heap.size w8 W) : (∀ b o, b < w8.heap.size → W.cell? ⟨b, o, none⟩ = w8.cell? ⟨b, o, none⟩) ∧ Below w8.heap.size w8 W := ⟨fun b o hb => h.cell (p := ⟨b, o, none⟩) hb, h⟩
theorem Kp.next {w8 W W2 : World} (h : (∀ b o, b < w8.heap.size → W.cell? ⟨b, o, none⟩ = w8.cell? ⟨b, o, none⟩) ∧ Below w8.heap.size w8 W) (hb : Below W.heap.size W W2) :
    (∀ b o, b < w8.heap.size → W2.cell? ⟨b, o, none⟩ = w8.cell? ⟨b, o, none⟩) ∧ Below w8.heap.size w8 W2 := Kp.mk (h.2.trans (hb.mono h.2.size))
/-- pages of the call's own -/
def PC (R W : List Int) (Ac Pe : Int) (ch : List (Int × Int)) (w : World) (r : Ending) (w' : World) : Prop :=
  ∃ v1 v2 v3 B2 B3, r = .returned (.agg #[v1, v2, .int .i64 Ac, .int .i64 Pe, v3]) ∧ w.heap.size ≤ B2 ∧ B2 ≤ B3 ∧ Own w' w.heap.size v1 R ∧ (∀ g, v1.ownBlock = some g → g < B2) ∧ Own w' B2 v2 W ∧ (∀ g, v2.ownBlock = some g → g < B3) ∧ OwC w' B3 v3 ch ∧ B3 ≤ w'.heap.size ∧ Below w.heap.size w w'
end Go.Proofs.Ytamajedopofcoaa
