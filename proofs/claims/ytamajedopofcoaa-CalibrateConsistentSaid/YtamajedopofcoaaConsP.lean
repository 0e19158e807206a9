/-
  Changes and commits in plain terms; numbers that lie apart from two blocks. No condition.
-/
import Derived.Test.YtamajedopofcoaaUni
import Derived.Test.YtamajedopofcoaaRd
set_option linter.unusedVariables false
set_option linter.unusedSimpArgs false
namespace Go.Proofs.Ytamajedopofcoaa
open Go.RowKit
theorem apC_snoc (W : List Int) (ch : List (Int × Int)) (p : Int × Int) : apC W (ch ++ [p]) = (apC W ch).set p.1.toNat p.2 := by
  unfold apC; simp [List.foldl_append]
theorem allP_set {l : List Int} (h : allP l = true) (i : Nat) {x : Int} (hx : parB x = true) : allP (l.set i x) = true := by
  unfold allP at h ⊢
  rw [List.all_eq_true] at h ⊢
  intro y hy
  rcases List.mem_or_eq_of_mem_set hy with h1 | rfl
  · exact h y h1
  · exact hx
theorem allP_ap {W : List Int} (hW : allP W = true) : ∀ {n : Nat} (ch : List (Int × Int)), allC n ch = true → allP (apC W ch) = true := by
  intro n ch
  induction ch generalizing W with
  | nil => intro _; exact hW
  | cons c ch ih =>
    intro h
    have hc : chB n c = true ∧ allC n ch = true := by simpa [allC] using h
    have hx : parB c.2 = true := by have := hc.1; unfold chB at this; simp only [Bool.and_eq_true] at this; exact this.2
    exact ih (allP_set hW _ hx) hc.2
theorem vP_of {R W : List Int} {Ac Pe : Int} {ch : List (Int × Int)} (h1 : 1 ≤ R.length) (h2 : R.length ≤ 1000) (h3 : W.length = R.length) (h4 : Ac = 0 ∨ Ac = 1) (h5 : -1 ≤ Pe) (h6 : Pe ≤ 1) (h7 : ch.length ≤ 100) (h8 : allC R.length ch = true) (h9 : allP R = true) (h10 : allP W = true) : vP R W Ac Pe ch = true := by
  unfold vP listB
  rcases h4 with rfl | rfl <;> simp [h1, h2, h3, h5, h6, h7, h8, h9, h10]
theorem vP_wri {R W : List Int} {Ac Pe : Int} {ch : List (Int × Int)} (h : vP R W Ac Pe ch = true) {i x : Int} (h0 : 0 ≤ i) (h1 : i < R.length) (hx : parB x = true) (hf : ¬ ch.length = 100) : vP R W Ac Pe (ch ++ [(i, x)]) = true := by
  obtain ⟨a1, a2, a3, a4, a5, a6, a7, a8, a9, a10⟩ := vP_t h
  refine vP_of a1 a2 a3 a4 a5 a6 (by simp; omega) ?_ a9 a10
  unfold allC at a8 ⊢
  rw [List.all_append, a8]
  simp [chB, h0, h1, hx]
theorem vP_sel {R W : List Int} {Ac Pe : Int} {ch : List (Int × Int)} (h : vP R W Ac Pe ch = true) {g : Int} (hg : g = 0 ∨ g = 1) : vP R W Ac g ch = true := by
  obtain ⟨a1, a2, a3, a4, a5, a6, a7, a8, a9, a10⟩ := vP_t h
  exact vP_of a1 a2 a3 a4 (by omega) (by omega) a7 a8 a9 a10
theorem vP_com {R W : List Int} {Ac Pe : Int} {ch : List (Int × Int)} (h : vP R W Ac Pe ch = true) {g : Int} (hg : g = 0 ∨ g = 1) : vP R (apC W ch) g (-1) [] = true := by
  obtain ⟨a1, a2, a3, a4, a5, a6, a7, a8, a9, a10⟩ := vP_t h
  exact vP_of a1 a2 (by rw [apC_len, a3]) hg (by omega) (by omega) (by simp) rfl a9 (allP_ap a10 ch a8)
/-- numbers that do not lie in the blocks G and Q -/
def Ix (G Q : Nat) (w : World) (A : Option Addr) (l : List Int) : Prop := Ik .i64 w A l ∧ (0 < l.length → ∀ b o, A = some ⟨b, o, none⟩ → b ≠ G ∧ b ≠ Q)
theorem Ix.below {G Q : Nat} {w w' : World} {A : Option Addr} {l : List Int} (h : Ix G Q w A l) (hb : Below w.heap.size w w') : Ix G Q w' A l := ⟨h.1.below hb, h.2⟩
theorem Ik.set0 {k : IntKind} {w : World} {A : Option Addr} {l : List Int} (h : Ik k w A l) (P : Nat) (hne : 0 < l.length → ∀ b o, A = some ⟨b, o, none⟩ → P ≠ b) (j : Nat) (u : Value) : Ik k (w.setCell ⟨P, j, none⟩ u) A l := fun h0 => h.set P (hne h0) j u h0
theorem Ix.setG {G Q : Nat} {w : World} {A : Option Addr} {l : List Int} (h : Ix G Q w A l) (j : Nat) (u : Value) : Ix G Q (w.setCell ⟨G, j, none⟩ u) A l :=
  ⟨h.1.set0 G (fun h0 b o e => (h.2 h0 b o e).1.symm) j u, h.2⟩
theorem Ix.setQ {G Q : Nat} {w : World} {A : Option Addr} {l : List Int} (h : Ix G Q w A l) (j : Nat) (u : Value) : Ix G Q (w.setCell ⟨Q, j, none⟩ u) A l :=
  ⟨h.1.set0 Q (fun h0 b o e => (h.2 h0 b o e).2.symm) j u, h.2⟩
theorem Ix.setQ5 {G Q : Nat} {w : World} {A : Option Addr} {l : List Int} (h : Ix G Q w A l) (v0 v1 v2 v3 v4 : Value) : Ix G Q (((((w.setCell ⟨Q, 0, none⟩ v0).setCell ⟨Q, 1, none⟩ v1).setCell ⟨Q, 2, none⟩ v2).setCell ⟨Q, 3, none⟩ v3).setCell ⟨Q, 4, none⟩ v4) A l :=
  ((((h.setQ 0 v0).setQ 1 v1).setQ 2 v2).setQ 3 v3).setQ 4 v4
theorem Ix.fr {G Q B : Nat} {w : World} {A : Option Addr} {l : List Int} (h : Ik .i64 w A l) (hA : Fr B A) (hG : G < B) (hQ : Q < B) : Ix G Q w A l := ⟨h, fun _ b o e => by have := hA b o e; omega⟩
theorem Ix.lo {G Q : Nat} {w w0 : World} {A : Option Addr} {l : List Int} (h : Ik .i64 w A l) (h0 : Ik .i64 w0 A l) (hG : w0.heap.size ≤ G) (hQ : w0.heap.size ≤ Q) : Ix G Q w A l := ⟨h, fun hl b o e => by
  obtain ⟨b', o', e', hlt, _⟩ := h0 hl
  rw [e] at e'; injection e' with e'; injection e' with e1 _; omega⟩
theorem wriM_ok {R W : List Int} {Ac Pe : Int} {ch : List (Int × Int)} (hv : vP R W Ac Pe ch = true) {x y : Int} (h : 0 ≤ x ∧ x < (R.length : Int) ∧ parB y = true) (hf : ¬ ch.length = 100) : wriM ⟨R, W, Ac, Pe, ch⟩ x y = (⟨R, W, Ac, Pe, ch ++ [(x, y)]⟩, 0) := by
  have e : wriM ⟨R, W, Ac, Pe, ch⟩ x y = if vP R W Ac Pe ch = false then (pz, 1) else if 0 ≤ x ∧ x < (R.length : Int) ∧ parB y = true then (if ch.length = 100 then (pz, 5) else (⟨R, W, Ac, Pe, ch ++ [(x, y)]⟩, 0)) else (pz, 2) := rfl
  rw [e, hv, if_neg (by simp), if_pos h, if_neg hf]
theorem wriM_no {R W : List Int} {Ac Pe : Int} {ch : List (Int × Int)} (hv : vP R W Ac Pe ch = true) {x y : Int} (h : ¬ ((0 ≤ x ∧ x < (R.length : Int) ∧ parB y = true) ∧ ¬ ch.length = 100)) : wriM ⟨R, W, Ac, Pe, ch⟩ x y = (pz, 2) ∨ wriM ⟨R, W, Ac, Pe, ch⟩ x y = (pz, 5) := by
  have e : wriM ⟨R, W, Ac, Pe, ch⟩ x y = if vP R W Ac Pe ch = false then (pz, 1) else if 0 ≤ x ∧ x < (R.length : Int) ∧ parB y = true then (if ch.length = 100 then (pz, 5) else (⟨R, W, Ac, Pe, ch ++ [(x, y)]⟩, 0)) else (pz, 2) := rfl
  rw [e, hv, if_neg (by simp)]
  by_cases h1 : 0 ≤ x ∧ x < (R.length : Int) ∧ parB y = true
  · rw [if_pos h1]
    by_cases h2 : ch.length = 100
    · rw [if_pos h2]; exact Or.inr rfl
    · exact absurd ⟨h1, h2⟩ h
  · rw [if_neg h1]; exact Or.inl rfl
theorem selM_ok {R W : List Int} {Ac Pe : Int} {ch : List (Int × Int)} (hv : vP R W Ac Pe ch = true) {g : Int} (hg : g = 0 ∨ g = 1) : selM ⟨R, W, Ac, Pe, ch⟩ g = (⟨R, W, Ac, g, ch⟩, 0) := by
  have e : selM ⟨R, W, Ac, Pe, ch⟩ g = if vP R W Ac Pe ch = false then (pz, 1) else if g = 0 ∨ g = 1 then (⟨R, W, Ac, g, ch⟩, 0) else (pz, 2) := rfl
  rw [e, hv, if_neg (by simp), if_pos hg]
theorem comM_ok {R W : List Int} {Ac Pe : Int} {ch : List (Int × Int)} (hv : vP R W Ac Pe ch = true) (hp : 0 ≤ Pe) : comM ⟨R, W, Ac, Pe, ch⟩ = (⟨R, apC W ch, Pe, -1, []⟩, 0) := by
  have e : comM ⟨R, W, Ac, Pe, ch⟩ = if vP R W Ac Pe ch = false then (pz, 1) else (⟨R, apC W ch, if 0 ≤ Pe then Pe else Ac, -1, []⟩, 0) := rfl
  rw [e, hv, if_neg (by simp), if_pos hp]
end Go.Proofs.Ytamajedopofcoaa
