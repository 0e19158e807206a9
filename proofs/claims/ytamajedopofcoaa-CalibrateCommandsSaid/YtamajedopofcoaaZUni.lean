/-
  What New, Write, Select and Commit answer, each as one law. No condition but the slices' shape.
-/
import Derived.Test.YtamajedopofcoaaZNew
import Derived.Test.YtamajedopofcoaaZWri
import Derived.Test.YtamajedopofcoaaZRWri
import Derived.Test.YtamajedopofcoaaZSel
import Derived.Test.YtamajedopofcoaaZRSel
import Derived.Test.YtamajedopofcoaaZCom
import Derived.Test.YtamajedopofcoaaZRCom
set_option linter.unusedVariables false
set_option linter.unusedSimpArgs false
namespace Go.Proofs.Ytamajedopofcoaa
open Go.RowKit
/-- what New, Write, Select and Commit answer -/
def newM (l : List Int) : PG × Int := if listB l = true then (⟨l, l, 0, -1, []⟩, 0) else (pz, 1)
def wriM (p : PG) (i x : Int) : PG × Int :=
  if p.ok = false then (pz, 1) else if 0 ≤ i ∧ i < p.R.length ∧ parB x = true then (if p.Ch.length = 100 then (pz, 5) else (⟨p.R, p.W, p.Ac, p.Pe, p.Ch ++ [(i, x)]⟩, 0)) else (pz, 2)
def selM (p : PG) (g : Int) : PG × Int :=
  if p.ok = false then (pz, 1) else if g = 0 ∨ g = 1 then (⟨p.R, p.W, p.Ac, g, p.Ch⟩, 0) else (pz, 2)
def comM (p : PG) : PG × Int :=
  if p.ok = false then (pz, 1) else (⟨p.R, apC p.W p.Ch, if 0 ≤ p.Pe then p.Pe else p.Ac, -1, []⟩, 0)
theorem new8u (A : Option Addr) (n c : Nat) (l : List Int) (w : World) (hl : l.length = n) (hb : Ik .i64 w A l) (hc : n ≤ c) (hs : n ≤ 5000) : Calls Try.prog 8 #[.slice A n c] w (PO (newM l).1 (newM l).2 w) := by
  have h := new8 A n c l w hl hb hc hs
  unfold newM
  split <;> rename_i hh
  · rw [if_pos hh] at h; exact h
  · rw [if_neg hh] at h; exact h
theorem new9u (A : Option Addr) (n c : Nat) (l : List Int) (w : World) (hl : l.length = n) (hb : Ik .i64 w A l) (hc : n ≤ c) (hs : n ≤ 5000) : Calls Try.prog 9 #[.slice A n c] w (PO (newM l).1 (newM l).2 w) := by
  have h := rnew9 A n c l w hl hb hc hs
  unfold newM
  split <;> rename_i hh
  · rw [if_pos hh] at h; exact h
  · rw [if_neg hh] at h; exact h
theorem wri15u (A : Option Addr) (n c : Nat) (A2 : Option Addr) (n2 c2 : Nat) (Ac Pe : Int) (A3 : Option Addr) (m c3 : Nat) (R W : List Int) (ch : List (Int × Int)) (i x : Int) (w : World) (hl : R.length = n) (hb : Ik .i64 w A R) (hc : n ≤ c) (hl2 : W.length = n2) (hb2 : Ik .i64 w A2 W) (hc2 : n2 ≤ c2) (hl3 : ch.length = m) (hb3 : Ik .i64 w A3 (flat ch)) (hc3 : m ≤ c3) (hs : n ≤ 5000) (hs2 : n2 ≤ 5000) (hs3 : m ≤ 5000) : Calls Try.prog 15 #[.agg #[.slice A n c, .slice A2 n2 c2, .int .i64 Ac, .int .i64 Pe, .slice A3 m c3], .int .i64 i, .int .i64 x] w (PO (wriM ⟨R, W, Ac, Pe, ch⟩ i x).1 (wriM ⟨R, W, Ac, Pe, ch⟩ i x).2 w) := by
  have e : wriM ⟨R, W, Ac, Pe, ch⟩ i x = if vP R W Ac Pe ch = false then (pz, 1) else if 0 ≤ i ∧ i < (n : Int) ∧ parB x = true then (if m = 100 then (pz, 5) else (⟨R, W, Ac, Pe, ch ++ [(i, x)]⟩, 0)) else (pz, 2) := by rw [← hl, ← hl3]; rfl
  rw [e]
  cases hv : vP R W Ac Pe ch
  · exact wri15_no A n c A2 n2 c2 Ac Pe A3 m c3 R W ch i x w hl hb hc hl2 hb2 hc2 hl3 hb3 hc3 hs hs2 hs3 hv
  · rw [if_neg (by simp)]
    by_cases hi : 0 ≤ i ∧ i < (n : Int) ∧ parB x = true
    · rw [if_pos hi]
      by_cases hm : m = 100
      · rw [if_pos hm]
        exact wri15_full A n c A2 n2 c2 Ac Pe A3 m c3 R W ch i x w hl hb hc hl2 hb2 hc2 hl3 hb3 hc3 hs hs2 hs3 hv hi.1 hi.2.1 hi.2.2 hm
      · rw [if_neg hm]
        exact wri15_ok A n c A2 n2 c2 Ac Pe A3 m c3 R W ch i x w hl hb hc hl2 hb2 hc2 hl3 hb3 hc3 hs hs2 hs3 hv hi.1 hi.2.1 hi.2.2 hm
    · rw [if_neg hi]
      refine wri15_bad A n c A2 n2 c2 Ac Pe A3 m c3 R W ch i x w hl hb hc hl2 hb2 hc2 hl3 hb3 hc3 hs hs2 hs3 hv ?_
      by_cases h0 : i < 0
      · exact Or.inl h0
      · by_cases h1 : (n : Int) ≤ i
        · exact Or.inr (Or.inl ⟨by omega, h1⟩)
        · refine Or.inr (Or.inr ⟨by omega, by omega, ?_⟩)
          cases hp : parB x
          · rfl
          · exact absurd ⟨by omega, by omega, hp⟩ hi
theorem wri16u (A : Option Addr) (n c : Nat) (A2 : Option Addr) (n2 c2 : Nat) (Ac Pe : Int) (A3 : Option Addr) (m c3 : Nat) (R W : List Int) (ch : List (Int × Int)) (i x : Int) (w : World) (hl : R.length = n) (hb : Ik .i64 w A R) (hc : n ≤ c) (hl2 : W.length = n2) (hb2 : Ik .i64 w A2 W) (hc2 : n2 ≤ c2) (hl3 : ch.length = m) (hb3 : Ik .i64 w A3 (flat ch)) (hc3 : m ≤ c3) (hs : n ≤ 5000) (hs2 : n2 ≤ 5000) (hs3 : m ≤ 5000) : Calls Try.prog 16 #[.agg #[.slice A n c, .slice A2 n2 c2, .int .i64 Ac, .int .i64 Pe, .slice A3 m c3], .int .i64 i, .int .i64 x] w (PO (wriM ⟨R, W, Ac, Pe, ch⟩ i x).1 (wriM ⟨R, W, Ac, Pe, ch⟩ i x).2 w) := by
  have e : wriM ⟨R, W, Ac, Pe, ch⟩ i x = if vP R W Ac Pe ch = false then (pz, 1) else if 0 ≤ i ∧ i < (n : Int) ∧ parB x = true then (if m = 100 then (pz, 5) else (⟨R, W, Ac, Pe, ch ++ [(i, x)]⟩, 0)) else (pz, 2) := by rw [← hl, ← hl3]; rfl
  rw [e]
  cases hv : vP R W Ac Pe ch
  · exact rwri16_no A n c A2 n2 c2 Ac Pe A3 m c3 R W ch i x w hl hb hc hl2 hb2 hc2 hl3 hb3 hc3 hs hs2 hs3 hv
  · rw [if_neg (by simp)]
    by_cases hi : 0 ≤ i ∧ i < (n : Int) ∧ parB x = true
    · rw [if_pos hi]
      by_cases hm : m = 100
      · rw [if_pos hm]
        exact rwri16_full A n c A2 n2 c2 Ac Pe A3 m c3 R W ch i x w hl hb hc hl2 hb2 hc2 hl3 hb3 hc3 hs hs2 hs3 hv hi.1 hi.2.1 hi.2.2 hm
      · rw [if_neg hm]
        exact rwri16_ok A n c A2 n2 c2 Ac Pe A3 m c3 R W ch i x w hl hb hc hl2 hb2 hc2 hl3 hb3 hc3 hs hs2 hs3 hv hi.1 hi.2.1 hi.2.2 hm
    · rw [if_neg hi]
      refine rwri16_bad A n c A2 n2 c2 Ac Pe A3 m c3 R W ch i x w hl hb hc hl2 hb2 hc2 hl3 hb3 hc3 hs hs2 hs3 hv ?_
      by_cases h0 : i < 0
      · exact Or.inl h0
      · by_cases h1 : (n : Int) ≤ i
        · exact Or.inr (Or.inl ⟨by omega, h1⟩)
        · refine Or.inr (Or.inr ⟨by omega, by omega, ?_⟩)
          cases hp : parB x
          · rfl
          · exact absurd ⟨by omega, by omega, hp⟩ hi
theorem sel17u (A : Option Addr) (n c : Nat) (A2 : Option Addr) (n2 c2 : Nat) (Ac Pe : Int) (A3 : Option Addr) (m c3 : Nat) (R W : List Int) (ch : List (Int × Int)) (g : Int) (w : World) (hl : R.length = n) (hb : Ik .i64 w A R) (hc : n ≤ c) (hl2 : W.length = n2) (hb2 : Ik .i64 w A2 W) (hc2 : n2 ≤ c2) (hl3 : ch.length = m) (hb3 : Ik .i64 w A3 (flat ch)) (hc3 : m ≤ c3) (hs : n ≤ 5000) (hs2 : n2 ≤ 5000) (hs3 : m ≤ 5000) : Calls Try.prog 17 #[.agg #[.slice A n c, .slice A2 n2 c2, .int .i64 Ac, .int .i64 Pe, .slice A3 m c3], .int .i64 g] w (PO (selM ⟨R, W, Ac, Pe, ch⟩ g).1 (selM ⟨R, W, Ac, Pe, ch⟩ g).2 w) := by
  have e : selM ⟨R, W, Ac, Pe, ch⟩ g = if vP R W Ac Pe ch = false then (pz, 1) else if g = 0 ∨ g = 1 then (⟨R, W, Ac, g, ch⟩, 0) else (pz, 2) := rfl
  rw [e]
  cases hv : vP R W Ac Pe ch
  · exact sel17_no A n c A2 n2 c2 Ac Pe A3 m c3 R W ch g w hl hb hc hl2 hb2 hc2 hl3 hb3 hc3 hs hs2 hs3 hv
  · rw [if_neg (by simp)]
    by_cases hg : g = 0 ∨ g = 1
    · rw [if_pos hg]
      exact sel17_ok A n c A2 n2 c2 Ac Pe A3 m c3 R W ch g w hl hb hc hl2 hb2 hc2 hl3 hb3 hc3 hs hs2 hs3 hv hg
    · rw [if_neg hg]
      exact sel17_bad A n c A2 n2 c2 Ac Pe A3 m c3 R W ch g w hl hb hc hl2 hb2 hc2 hl3 hb3 hc3 hs hs2 hs3 hv hg
theorem sel18u (A : Option Addr) (n c : Nat) (A2 : Option Addr) (n2 c2 : Nat) (Ac Pe : Int) (A3 : Option Addr) (m c3 : Nat) (R W : List Int) (ch : List (Int × Int)) (g : Int) (w : World) (hl : R.length = n) (hb : Ik .i64 w A R) (hc : n ≤ c) (hl2 : W.length = n2) (hb2 : Ik .i64 w A2 W) (hc2 : n2 ≤ c2) (hl3 : ch.length = m) (hb3 : Ik .i64 w A3 (flat ch)) (hc3 : m ≤ c3) (hs : n ≤ 5000) (hs2 : n2 ≤ 5000) (hs3 : m ≤ 5000) : Calls Try.prog 18 #[.agg #[.slice A n c, .slice A2 n2 c2, .int .i64 Ac, .int .i64 Pe, .slice A3 m c3], .int .i64 g] w (PO (selM ⟨R, W, Ac, Pe, ch⟩ g).1 (selM ⟨R, W, Ac, Pe, ch⟩ g).2 w) := by
  have e : selM ⟨R, W, Ac, Pe, ch⟩ g = if vP R W Ac Pe ch = false then (pz, 1) else if g = 0 ∨ g = 1 then (⟨R, W, Ac, g, ch⟩, 0) else (pz, 2) := rfl
  rw [e]
  cases hv : vP R W Ac Pe ch
  · exact rsel18_no A n c A2 n2 c2 Ac Pe A3 m c3 R W ch g w hl hb hc hl2 hb2 hc2 hl3 hb3 hc3 hs hs2 hs3 hv
  · rw [if_neg (by simp)]
    by_cases hg : g = 0 ∨ g = 1
    · rw [if_pos hg]
      exact rsel18_ok A n c A2 n2 c2 Ac Pe A3 m c3 R W ch g w hl hb hc hl2 hb2 hc2 hl3 hb3 hc3 hs hs2 hs3 hv hg
    · rw [if_neg hg]
      exact rsel18_bad A n c A2 n2 c2 Ac Pe A3 m c3 R W ch g w hl hb hc hl2 hb2 hc2 hl3 hb3 hc3 hs hs2 hs3 hv hg
theorem com19u (A : Option Addr) (n c : Nat) (A2 : Option Addr) (n2 c2 : Nat) (Ac Pe : Int) (A3 : Option Addr) (m c3 : Nat) (R W : List Int) (ch : List (Int × Int)) (w : World) (hl : R.length = n) (hb : Ik .i64 w A R) (hc : n ≤ c) (hl2 : W.length = n2) (hb2 : Ik .i64 w A2 W) (hc2 : n2 ≤ c2) (hl3 : ch.length = m) (hb3 : Ik .i64 w A3 (flat ch)) (hc3 : m ≤ c3) (hs : n ≤ 5000) (hs2 : n2 ≤ 5000) (hs3 : m ≤ 5000) : Calls Try.prog 19 #[.agg #[.slice A n c, .slice A2 n2 c2, .int .i64 Ac, .int .i64 Pe, .slice A3 m c3]] w (PO (comM ⟨R, W, Ac, Pe, ch⟩).1 (comM ⟨R, W, Ac, Pe, ch⟩).2 w) := by
  have e : comM ⟨R, W, Ac, Pe, ch⟩ = if vP R W Ac Pe ch = false then (pz, 1) else (⟨R, apC W ch, if 0 ≤ Pe then Pe else Ac, -1, []⟩, 0) := rfl
  rw [e]
  cases hv : vP R W Ac Pe ch
  · exact com19_no A n c A2 n2 c2 Ac Pe A3 m c3 R W ch w hl hb hc hl2 hb2 hc2 hl3 hb3 hc3 hs hs2 hs3 hv
  · exact com19_ok A n c A2 n2 c2 Ac Pe A3 m c3 R W ch w hl hb hc hl2 hb2 hc2 hl3 hb3 hc3 hs hs2 hs3 hv
theorem com20u (A : Option Addr) (n c : Nat) (A2 : Option Addr) (n2 c2 : Nat) (Ac Pe : Int) (A3 : Option Addr) (m c3 : Nat) (R W : List Int) (ch : List (Int × Int)) (w : World) (hl : R.length = n) (hb : Ik .i64 w A R) (hc : n ≤ c) (hl2 : W.length = n2) (hb2 : Ik .i64 w A2 W) (hc2 : n2 ≤ c2) (hl3 : ch.length = m) (hb3 : Ik .i64 w A3 (flat ch)) (hc3 : m ≤ c3) (hs : n ≤ 5000) (hs2 : n2 ≤ 5000) (hs3 : m ≤ 5000) : Calls Try.prog 20 #[.agg #[.slice A n c, .slice A2 n2 c2, .int .i64 Ac, .int .i64 Pe, .slice A3 m c3]] w (PO (comM ⟨R, W, Ac, Pe, ch⟩).1 (comM ⟨R, W, Ac, Pe, ch⟩).2 w) := by
  have e : comM ⟨R, W, Ac, Pe, ch⟩ = if vP R W Ac Pe ch = false then (pz, 1) else (⟨R, apC W ch, if 0 ≤ Pe then Pe else Ac, -1, []⟩, 0) := rfl
  rw [e]
  cases hv : vP R W Ac Pe ch
  · exact rcom20_no A n c A2 n2 c2 Ac Pe A3 m c3 R W ch w hl hb hc hl2 hb2 hc2 hl3 hb3 hc3 hs hs2 hs3 hv
  · exact rcom20_ok A n c A2 n2 c2 Ac Pe A3 m c3 R W ch w hl hb hc hl2 hb2 hc2 hl3 hb3 hc3 hs hs2 hs3 hv
/-- pages of known length -/
theorem PO.at {R W : List Int} {Ac Pe e : Int} {ch : List (Int × Int)} {w w' : World} {r : Ending} (h : PO ⟨R, W, Ac, Pe, ch⟩ e w r w') (n n2 m : Nat) (hn : R.length = n) (hn2 : W.length = n2) (hm : ch.length = m) :
    ∃ A c A2 c2 A3 c3, r = .returned (.tuple #[.agg #[.slice A n c, .slice A2 n2 c2, .int .i64 Ac, .int .i64 Pe, .slice A3 m c3], .int .i64 e]) ∧ n ≤ c ∧ n2 ≤ c2 ∧ m ≤ c3 ∧ Ik .i64 w' A R ∧ Ik .i64 w' A2 W ∧ Ik .i64 w' A3 (flat ch) ∧ Fr w.heap.size A ∧ Fr w.heap.size A2 ∧ Fr w.heap.size A3 ∧ Below w.heap.size w w' := by
  obtain ⟨A, n', c, A2, n2', c2, A3, m', c3, rfl, h1, h2, h3, h4, h5, h6, h7, h8, h9, h10, h11, h12, h13⟩ := h
  simp only at h1 h4 h7
  subst hn hn2 hm h1 h4 h7
  exact ⟨A, c, A2, c2, A3, c3, rfl, h2, h5, h8, h3, h6, h9, h10, h11, h12, h13⟩
/-- cells that lie in blocks of a call's own are left alone by a store into an older block -/
theorem Ik.old5 {k : IntKind} {w : World} {A : Option Addr} {l : List Int} {B P : Nat} (h : Ik k w A l) (hA : Fr B A) (hP : P < B) (v0 v1 v2 v3 v4 : Value) : Ik k (((((w.setCell ⟨P, 0, none⟩ v0).setCell ⟨P, 1, none⟩ v1).setCell ⟨P, 2, none⟩ v2).setCell ⟨P, 3, none⟩ v3).setCell ⟨P, 4, none⟩ v4) A l := h.fr5 hA hP v0 v1 v2 v3 v4
/-- numbers that lie in a block older than P are left alone by a store into P -/
theorem Ik.low5 {k : IntKind} {w : World} {A : Option Addr} {l : List Int} {P : Nat} (h : Ik k w A l) (hA : ∀ b o, A = some ⟨b, o, none⟩ → b < P) (v0 v1 v2 v3 v4 : Value) : Ik k (((((w.setCell ⟨P, 0, none⟩ v0).setCell ⟨P, 1, none⟩ v1).setCell ⟨P, 2, none⟩ v2).setCell ⟨P, 3, none⟩ v3).setCell ⟨P, 4, none⟩ v4) A l :=
  have g : ∀ b o, A = some ⟨b, o, none⟩ → P ≠ b := fun b o e => by have := hA b o e; omega
  ((((h.set P g 0 v0).set P g 1 v1).set P g 2 v2).set P g 3 v3).set P g 4 v4
end Go.Proofs.Ytamajedopofcoaa
