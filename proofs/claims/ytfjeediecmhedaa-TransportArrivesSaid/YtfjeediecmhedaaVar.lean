/-
  Structs of nine cells in variables. No condition.
-/
import Derived.Test.YtfjeediecmhedaaKind
import Derived.Test.YtfjeediecmhedaaVal
import Derived.Test.YtfjeediecmhedaaSame
set_option linter.unusedVariables false
set_option linter.unusedSimpArgs false
namespace Go.Proofs.Ytfjeediecmhedaa
open Go.RowKit
/-- a block's cells, none frozen -/
def Cl (P : Nat) (w : World) (vs : List Value) : Prop := P < w.heap.size ∧ ∀ j v, vs[j]? = some v → w.cell? ⟨P, j, none⟩ = some v ∧ w.frozen? ⟨P, j, none⟩ = false
theorem Cl.below {P : Nat} {w w' : World} {vs : List Value} (h : Cl P w vs) (hb : Below w.heap.size w w') : Cl P w' vs :=
  ⟨Nat.lt_of_lt_of_le h.1 hb.size, fun j v e => ⟨((bcell hb).1 _ _ h.1).trans (h.2 j v e).1, ((bcell hb).2 _ _ h.1).trans (h.2 j v e).2⟩⟩
theorem Cl.new {P : Nat} {w : World} (hP : P = w.heap.size) (vs : List Value) (t : TypeId) : Cl P (w.alloc (.cells vs.toArray t)) vs := by
  subst hP
  refine ⟨by simp, fun j v e => ?_⟩
  have h := heap_alloc_new w (.cells vs.toArray t)
  refine ⟨?_, ?_⟩
  · simp only [World.cell?, h]
    simpa using e
  · simp only [World.frozen?, h]
    simp
theorem Cl.far {P b : Nat} {w : World} {vs : List Value} (h : Cl P w vs) (hne : b ≠ P) (o : Nat) (u : Value) : Cl P (w.setCell ⟨b, o, none⟩ u) vs :=
  ⟨by simpa using h.1, fun j v e => ⟨(World.cell?_setCell_far _ _ _ _ hne).trans (h.2 j v e).1, by rw [World.frozen?_setCell]; exact (h.2 j v e).2⟩⟩
theorem Cl.set {P : Nat} {w : World} {vs : List Value} (h : Cl P w vs) (i : Nat) (u : Value) : Cl P (w.setCell ⟨P, i, none⟩ u) (vs.set i u) := by
  refine ⟨by simpa using h.1, fun j v e => ?_⟩
  rw [List.getElem?_set] at e
  by_cases hij : i = j
  · subst hij
    simp only [if_true] at e
    split at e
    · rename_i hl
      have hv : v = u := by simpa using e.symm
      subst hv
      obtain ⟨h1, h2⟩ := h.2 i _ (List.getElem?_eq_getElem hl)
      exact ⟨World.cell?_setCell_same _ _ _ h1, by rw [World.frozen?_setCell]; exact h2⟩
    · cases e
  · rw [if_neg hij] at e
    obtain ⟨h1, h2⟩ := h.2 j v e
    exact ⟨(World.cell?_setCell_other _ _ _ _ (by intro q; injection q with _ q; exact hij q)).trans h1, by rw [World.frozen?_setCell]; exact h2⟩
theorem Cl.c {P : Nat} {w : World} {vs : List Value} (h : Cl P w vs) (j : Nat) {v : Value} (e : vs[j]? = some v) : w.cell? ⟨P, j, none⟩ = some v := (h.2 j v e).1
theorem Cl.f {P : Nat} {w : World} {vs : List Value} (h : Cl P w vs) (j : Nat) {v : Value} (e : vs[j]? = some v) : w.frozen? ⟨P, j, none⟩ = false := (h.2 j v e).2
theorem Cl.cells9 {P : Nat} {w : World} {v0 v1 v2 v3 v4 v5 v6 v7 v8 : Value} (h : Cl P w [v0, v1, v2, v3, v4, v5, v6, v7, v8]) :
    w.cell? ⟨P, 0, none⟩ = some v0 ∧ w.cell? ⟨P, 1, none⟩ = some v1 ∧ w.cell? ⟨P, 2, none⟩ = some v2 ∧ w.cell? ⟨P, 3, none⟩ = some v3 ∧ w.cell? ⟨P, 4, none⟩ = some v4 ∧ w.cell? ⟨P, 5, none⟩ = some v5 ∧ w.cell? ⟨P, 6, none⟩ = some v6 ∧ w.cell? ⟨P, 7, none⟩ = some v7 ∧ w.cell? ⟨P, 8, none⟩ = some v8 :=
  ⟨h.c 0 rfl, h.c 1 rfl, h.c 2 rfl, h.c 3 rfl, h.c 4 rfl, h.c 5 rfl, h.c 6 rfl, h.c 7 rfl, h.c 8 rfl⟩
theorem Cl.free9 {P : Nat} {w : World} {v0 v1 v2 v3 v4 v5 v6 v7 v8 : Value} (h : Cl P w [v0, v1, v2, v3, v4, v5, v6, v7, v8]) :
    w.frozen? ⟨P, 0, none⟩ = false ∧ w.frozen? ⟨P, 1, none⟩ = false ∧ w.frozen? ⟨P, 2, none⟩ = false ∧ w.frozen? ⟨P, 3, none⟩ = false ∧ w.frozen? ⟨P, 4, none⟩ = false ∧ w.frozen? ⟨P, 5, none⟩ = false ∧ w.frozen? ⟨P, 6, none⟩ = false ∧ w.frozen? ⟨P, 7, none⟩ = false ∧ w.frozen? ⟨P, 8, none⟩ = false :=
  ⟨h.f 0 rfl, h.f 1 rfl, h.f 2 rfl, h.f 3 rfl, h.f 4 rfl, h.f 5 rfl, h.f 6 rfl, h.f 7 rfl, h.f 8 rfl⟩
theorem Bt.set9 {w : World} {A : Option Addr} {l : List Int} {P : Nat} (h : Bt w A l) (hne : ∀ b o, A = some ⟨b, o, none⟩ → P ≠ b) (v0 v1 v2 v3 v4 v5 v6 v7 v8 : Value) : Bt (((((((((w.setCell ⟨P, 0, none⟩ v0).setCell ⟨P, 1, none⟩ v1).setCell ⟨P, 2, none⟩ v2).setCell ⟨P, 3, none⟩ v3).setCell ⟨P, 4, none⟩ v4).setCell ⟨P, 5, none⟩ v5).setCell ⟨P, 6, none⟩ v6).setCell ⟨P, 7, none⟩ v7).setCell ⟨P, 8, none⟩ v8) A l :=
  (((((((((h.set P hne 0 v0).set P hne 1 v1).set P hne 2 v2).set P hne 3 v3).set P hne 4 v4).set P hne 5 v5).set P hne 6 v6).set P hne 7 v7).set P hne 8 v8)
theorem below_set9 {w0 w : World} {B P : Nat} (h : Below B w0 w) (hP : B ≤ P) (v0 v1 v2 v3 v4 v5 v6 v7 v8 : Value) : Below B w0 (((((((((w.setCell ⟨P, 0, none⟩ v0).setCell ⟨P, 1, none⟩ v1).setCell ⟨P, 2, none⟩ v2).setCell ⟨P, 3, none⟩ v3).setCell ⟨P, 4, none⟩ v4).setCell ⟨P, 5, none⟩ v5).setCell ⟨P, 6, none⟩ v6).setCell ⟨P, 7, none⟩ v7).setCell ⟨P, 8, none⟩ v8) :=
  (((((((((h.setCell (p := ⟨P, 0, none⟩) hP v0).setCell (p := ⟨P, 1, none⟩) hP v1).setCell (p := ⟨P, 2, none⟩) hP v2).setCell (p := ⟨P, 3, none⟩) hP v3).setCell (p := ⟨P, 4, none⟩) hP v4).setCell (p := ⟨P, 5, none⟩) hP v5).setCell (p := ⟨P, 6, none⟩) hP v6).setCell (p := ⟨P, 7, none⟩) hP v7).setCell (p := ⟨P, 8, none⟩) hP v8)
theorem Cl.set9 {P : Nat} {w : World} {u0 u1 u2 u3 u4 u5 u6 u7 u8 : Value} (h : Cl P w [u0, u1, u2, u3, u4, u5, u6, u7, u8]) (v0 v1 v2 v3 v4 v5 v6 v7 v8 : Value) : Cl P (((((((((w.setCell ⟨P, 0, none⟩ v0).setCell ⟨P, 1, none⟩ v1).setCell ⟨P, 2, none⟩ v2).setCell ⟨P, 3, none⟩ v3).setCell ⟨P, 4, none⟩ v4).setCell ⟨P, 5, none⟩ v5).setCell ⟨P, 6, none⟩ v6).setCell ⟨P, 7, none⟩ v7).setCell ⟨P, 8, none⟩ v8) [v0, v1, v2, v3, v4, v5, v6, v7, v8] :=
  (((((((((h.set 0 v0).set 1 v1).set 2 v2).set 3 v3).set 4 v4).set 5 v5).set 6 v6).set 7 v7).set 8 v8)
theorem Cl.far9 {P Q : Nat} {w : World} {us : List Value} (h : Cl Q w us) (hne : P ≠ Q) (v0 v1 v2 v3 v4 v5 v6 v7 v8 : Value) : Cl Q (((((((((w.setCell ⟨P, 0, none⟩ v0).setCell ⟨P, 1, none⟩ v1).setCell ⟨P, 2, none⟩ v2).setCell ⟨P, 3, none⟩ v3).setCell ⟨P, 4, none⟩ v4).setCell ⟨P, 5, none⟩ v5).setCell ⟨P, 6, none⟩ v6).setCell ⟨P, 7, none⟩ v7).setCell ⟨P, 8, none⟩ v8) us :=
  (((((((((h.far hne 0 v0).far hne 1 v1).far hne 2 v2).far hne 3 v3).far hne 4 v4).far hne 5 v5).far hne 6 v6).far hne 7 v7).far hne 8 v8)
theorem Kp.mk {w8 W : World} (h : Below w8.heap.size w8 W) : (∀ b o, b < w8.heap.size → W.cell? ⟨b, o, none⟩ = w8.cell? ⟨b, o, none⟩) ∧ Below w8.heap.size w8 W := ⟨fun b o hb => h.cell (p := ⟨b, o, none⟩) hb, h⟩
theorem Kp.next {w8 W W2 : World} (h : (∀ b o, b < w8.heap.size → W.cell? ⟨b, o, none⟩ = w8.cell? ⟨b, o, none⟩) ∧ Below w8.heap.size w8 W) (hb : Below W.heap.size W W2) :
    (∀ b o, b < w8.heap.size → W2.cell? ⟨b, o, none⟩ = w8.cell? ⟨b, o, none⟩) ∧ Below w8.heap.size w8 W2 := Kp.mk (h.2.trans (hb.mono h.2.size))
/-- a sender, a frame and an error -/
def SP (n : Nat) (At Nu Bl Se : Int) (Wt : Bool) (Gp Dl : Int) (Fl : Bool) (l fr : List Int) (e : Int) (w : World) (r : Ending) (w' : World) : Prop :=
  ∃ A c B m d, r = .returned (.tuple #[.agg #[.slice A n c, .int .i64 At, .int .i64 Nu, .int .i64 Bl, .int .i64 Se, .bool Wt, .int .i64 Gp, .int .i64 Dl, .bool Fl], .slice B m d, .int .i64 e]) ∧ n ≤ c ∧ Bt w' A l ∧ Fr w.heap.size A ∧ m = fr.length ∧ m ≤ d ∧ Bt w' B fr ∧ Fr w.heap.size B ∧ Below w.heap.size w w'
theorem Fr.none (B : Nat) : Fr B none := fun b o e => by cases e
set_option maxHeartbeats 2000000 in
theorem send19_arg (A : Option Addr) (n c : Nat) (t : Int) (w : World) (h : msgB n = false) :
    Calls Try.prog 19 #[.slice A n c, .int .i64 t] w (SP 0 0 0 0 0 false 0 0 false [] [] 1 w) := by
  have M := fun w => message41 A n c w
  rw [h] at M
  replace M := Lib.hid M
  clear h
  go_enter Try.func19, Try.ntmps19
  go_wp2_with (go_at_call 41; refine (M.out _).mono ?_; rintro r w1 ⟨rfl, rfl⟩)
  refine bodyPost_ret (v := .tuple #[.agg #[.slice none 0 0, .int .i64 0, .int .i64 0, .int .i64 0, .int .i64 0, .bool false, .int .i64 0, .int .i64 0, .bool false], .slice none 0 0, .int .i64 1]) (by simp [results, Try.results19, go_sem] <;> first | rfl | ((repeat' apply And.intro) <;> rfl)) rfl ⟨none, 0, none, 0, 0, rfl, by omega, Bt.nil _ _, Fr.none _, rfl, by omega, Bt.nil _ _, Fr.none _, by go_grown⟩
set_option maxHeartbeats 2000000 in
theorem send19_range (A : Option Addr) (n c : Nat) (t : Int) (w : World) (h : msgB n = true) (h2 : timeB t = false) :
    Calls Try.prog 19 #[.slice A n c, .int .i64 t] w (SP 0 0 0 0 0 false 0 0 false [] [] 2 w) := by
  have M := fun w => message41 A n c w
  rw [h] at M
  replace M := Lib.hid M
  clear h
  have T := fun w => instant37 t w
  rw [h2] at T
  replace T := Lib.hid T
  clear h2
  go_enter Try.func19, Try.ntmps19
  go_wp2_with (first | (go_at_call 41; refine (M.out _).mono ?_; rintro r w1 ⟨rfl, rfl⟩) | (go_at_call 37; refine (T.out _).mono ?_; rintro r w1 ⟨rfl, rfl⟩))
  refine bodyPost_ret (v := .tuple #[.agg #[.slice none 0 0, .int .i64 0, .int .i64 0, .int .i64 0, .int .i64 0, .bool false, .int .i64 0, .int .i64 0, .bool false], .slice none 0 0, .int .i64 2]) (by simp [results, Try.results19, go_sem] <;> first | rfl | ((repeat' apply And.intro) <;> rfl)) rfl ⟨none, 0, none, 0, 0, rfl, by omega, Bt.nil _ _, Fr.none _, rfl, by omega, Bt.nil _ _, Fr.none _, by go_grown⟩
end Go.Proofs.Ytfjeediecmhedaa
