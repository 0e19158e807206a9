/-
  A slice of frames in memory, and the frames of a message in plain terms. No condition.
-/
import Derived.Test.YtfjeediecmhedaaSnd
set_option linter.unusedVariables false
set_option linter.unusedSimpArgs false
namespace Go.Proofs.Ytfjeediecmhedaa
open Go.RowKit
/-- a value that is a slice of these bytes, in a block that Na allows -/
def Sl (w : World) (Na : Nat → Prop) (x : Value) (f : List Int) : Prop := ∃ B d, x = .slice B f.length d ∧ f.length ≤ d ∧ Bt w B f ∧ ∀ b o, B = some ⟨b, o, none⟩ → Na b ∧ b < w.heap.size
/-- values that are slices of these bytes, one after the other -/
def Rw (w : World) (Na : Nat → Prop) (xs : List Value) (fs : List (List Int)) : Prop := xs.length = fs.length ∧ ∀ (i : Nat) (x : Value) (f : List Int), xs[i]? = some x → fs[i]? = some f → Sl w Na x f
theorem Bt.setN {w : World} {A : Option Addr} {l : List Int} {P : Nat} {Na : Nat → Prop} (h : Bt w A l) (hA : ∀ b o, A = some ⟨b, o, none⟩ → Na b) (hP : ¬ Na P) (j : Nat) (u : Value) : Bt (w.setCell ⟨P, j, none⟩ u) A l :=
  h.set P (fun b o e he => hP (he ▸ hA b o e)) j u
theorem Sl.below {w w' : World} {Na : Nat → Prop} {x : Value} {f : List Int} (h : Sl w Na x f) (hb : Below w.heap.size w w') : Sl w' Na x f := by
  obtain ⟨B, d, e, h1, h2, h3⟩ := h
  exact ⟨B, d, e, h1, h2.below hb, fun b o e => ⟨(h3 b o e).1, Nat.lt_of_lt_of_le (h3 b o e).2 hb.size⟩⟩
theorem Sl.set {w : World} {Na : Nat → Prop} {P : Nat} {x : Value} {f : List Int} (h : Sl w Na x f) (hP : ¬ Na P) (j : Nat) (u : Value) : Sl (w.setCell ⟨P, j, none⟩ u) Na x f := by
  obtain ⟨B, d, e, h1, h2, h3⟩ := h
  exact ⟨B, d, e, h1, h2.setN (fun b o e => (h3 b o e).1) hP j u, fun b o e => ⟨(h3 b o e).1, by simpa using (h3 b o e).2⟩⟩
theorem Sl.imp {w : World} {Na Nb : Nat → Prop} {x : Value} {f : List Int} (h : Sl w Na x f) (hi : ∀ b, b < w.heap.size → Na b → Nb b) : Sl w Nb x f := by
  obtain ⟨B, d, e, h1, h2, h3⟩ := h
  exact ⟨B, d, e, h1, h2, fun b o e => ⟨hi b (h3 b o e).2 (h3 b o e).1, (h3 b o e).2⟩⟩
theorem Rw.below {w w' : World} {Na : Nat → Prop} {xs : List Value} {fs : List (List Int)} (h : Rw w Na xs fs) (hb : Below w.heap.size w w') : Rw w' Na xs fs :=
  ⟨h.1, fun i x f h1 h2 => (h.2 i x f h1 h2).below hb⟩
theorem Rw.set {w : World} {Na : Nat → Prop} {P : Nat} {xs : List Value} {fs : List (List Int)} (h : Rw w Na xs fs) (hP : ¬ Na P) (j : Nat) (u : Value) : Rw (w.setCell ⟨P, j, none⟩ u) Na xs fs :=
  ⟨h.1, fun i x f h1 h2 => (h.2 i x f h1 h2).set hP j u⟩
theorem Rw.imp {w : World} {Na Nb : Nat → Prop} {xs : List Value} {fs : List (List Int)} (h : Rw w Na xs fs) (hi : ∀ b, b < w.heap.size → Na b → Nb b) : Rw w Nb xs fs :=
  ⟨h.1, fun i x f h1 h2 => (h.2 i x f h1 h2).imp hi⟩
theorem Rw.snoc {w : World} {Na : Nat → Prop} {xs : List Value} {fs : List (List Int)} {x : Value} {f : List Int} (h : Rw w Na xs fs) (hx : Sl w Na x f) : Rw w Na (xs ++ [x]) (fs ++ [f]) := by
  refine ⟨by simp [h.1], fun i y g h1 h2 => ?_⟩
  by_cases hi : i < xs.length
  · rw [List.getElem?_append_left hi] at h1
    rw [List.getElem?_append_left (by rw [← h.1]; exact hi)] at h2
    exact h.2 i y g h1 h2
  · rw [List.getElem?_append_right (by omega)] at h1
    rw [List.getElem?_append_right (by rw [← h.1]; omega)] at h2
    have h0 : i - xs.length = 0 := by
      rcases Nat.eq_zero_or_pos (i - xs.length) with h0 | h0
      · exact h0
      · rw [List.getElem?_eq_none (by simp; omega)] at h1; cases h1
    rw [h0] at h1
    rw [← h.1, h0] at h2
    simp at h1 h2
    subst h1 h2
    exact hx
theorem Rw.one {w : World} {Na : Nat → Prop} {x : Value} {f : List Int} (hx : Sl w Na x f) : Rw w Na [x] [f] := by
  have h0 : Rw w Na [] [] := ⟨rfl, fun i x f h _ => by simp at h⟩
  simpa using h0.snoc hx
/-- all blocks but gR are as they were -/
def Kept (w w' : World) (gR : Nat) : Prop := w.heap.size ≤ w'.heap.size ∧ ∀ b, b < w.heap.size → b ≠ gR → w'.heap[b]? = w.heap[b]?
theorem Kept.cell {w w' : World} {gR : Nat} (h : Kept w w' gR) {b : Nat} (hb : b < w.heap.size) (hne : b ≠ gR) (o : Nat) : w'.cell? ⟨b, o, none⟩ = w.cell? ⟨b, o, none⟩ := by
  simp only [World.cell?, h.2 b hb hne]
theorem Kept.frozen {w w' : World} {gR : Nat} (h : Kept w w' gR) {b : Nat} (hb : b < w.heap.size) (hne : b ≠ gR) (o : Nat) : w'.frozen? ⟨b, o, none⟩ = w.frozen? ⟨b, o, none⟩ := by
  simp only [World.frozen?, h.2 b hb hne]
theorem Bt.kept {w w' : World} {gR : Nat} {A : Option Addr} {l : List Int} (h : Bt w A l) (hk : Kept w w' gR) (hA : ∀ b o, A = some ⟨b, o, none⟩ → b ≠ gR) : Bt w' A l := fun h0 => by
  obtain ⟨b, o, rfl, hb, hc⟩ := h h0
  exact ⟨b, o, rfl, Nat.lt_of_lt_of_le hb hk.1, fun i x hx => (hk.cell hb (hA b o rfl) _).trans (hc i x hx)⟩
theorem Cl.kept {w w' : World} {gR P : Nat} {vs : List Value} (h : Cl P w vs) (hk : Kept w w' gR) (hP : P ≠ gR) : Cl P w' vs :=
  ⟨Nat.lt_of_lt_of_le h.1 hk.1, fun j v e => ⟨(hk.cell h.1 hP _).trans (h.2 j v e).1, (hk.frozen h.1 hP _).trans (h.2 j v e).2⟩⟩
theorem Sl.kept {w w' : World} {gR : Nat} {Na : Nat → Prop} {x : Value} {f : List Int} (h : Sl w Na x f) (hk : Kept w w' gR) (hn : ¬ Na gR) : Sl w' Na x f := by
  obtain ⟨B, d, e, h1, h2, h3⟩ := h
  exact ⟨B, d, e, h1, h2.kept hk (fun b o e he => hn (he ▸ (h3 b o e).1)), fun b o e => ⟨(h3 b o e).1, Nat.lt_of_lt_of_le (h3 b o e).2 hk.1⟩⟩
theorem Rw.kept {w w' : World} {gR : Nat} {Na : Nat → Prop} {xs : List Value} {fs : List (List Int)} (h : Rw w Na xs fs) (hk : Kept w w' gR) (hn : ¬ Na gR) : Rw w' Na xs fs :=
  ⟨h.1, fun i x f h1 h2 => (h.2 i x f h1 h2).kept hk hn⟩
/-- the blocks of frames: made by the call, but neither the sender's nor the row's -/
def Nb (w0 P gR : Nat) (b : Nat) : Prop := w0 ≤ b ∧ b ≠ P ∧ b ≠ gR
/-- a row of frames -/
def Out (w : World) (w0 P gR cap : Nat) (fs : List (List Int)) : Prop := P + 1 ≤ gR ∧ ∃ xs, w.ownsRow (P + 1) 22 1 (.slice (some ⟨gR, 0, none⟩) fs.length cap) fs.length xs ∧ Rw w (Nb w0 P gR) xs fs
/-- the frames behind the first one -/
def carM (l : List Int) (b g : Int) : Nat → Nat → Int → Int → Bool → List (List Int)
  | 0, _, _, _, _ => []
  | k + 1, a, Nu, Se, Wt =>
    if l.length ≤ a then []
    else if Wt = true then pad [48, b, g] :: carM l b g k a Nu 0 false
    else if l.length ≤ a + 7 then [pad ((32 + Nu) :: l.drop a)]
    else pad ((32 + Nu) :: (l.drop a).take 7) ::
      (if b = 0 then carM l b g k (a + 7) ((Nu + 1) % 16) 0 false
      else if Se + 1 = b then carM l b g k (a + 7) ((Nu + 1) % 16) 0 true
      else carM l b g k (a + 7) ((Nu + 1) % 16) (Se + 1) false)
def allM (l : List Int) (b g : Int) : List (List Int) :=
  if l.length ≤ 7 then [pad ((l.length : Int) :: l)]
  else pad ((16 + (l.length : Int) / 256) :: ((l.length : Int) % 256) :: l.take 6) :: carM l b g (2 * l.length) 6 1 0 true
theorem carM_end (l : List Int) (b g : Int) (k a : Nat) (Nu Se : Int) (Wt : Bool) (h : l.length ≤ a) : carM l b g k a Nu Se Wt = [] := by
  cases k with
  | zero => rfl
  | succ k => unfold carM; rw [if_pos h]
/-- what holds of the sender wherever the loop begins; k rounds are left at most -/
def Inv (l : List Int) (b g : Int) (k : Nat) (s : SS) : Prop :=
  s.l = l ∧ s.ok = true ∧ s.Fl = false ∧ s.Dl + 1000000 * (k : Int) ≤ 10000000000 ∧ (s.At < l.length → s.Wt = false → s.Bl = b ∧ s.Gp = g) ∧ (s.At < l.length → 2 * ((l.length : Int) - s.At) + (if s.Wt = true then 1 else 0) ≤ k)
def rem (l : List Int) (b g : Int) (k : Nat) (s : SS) : List (List Int) := carM l b g k s.At.toNat s.Nu s.Se s.Wt
theorem kind_go {b g : Int} (b0 : 0 ≤ b) (b1 : b ≤ 255) (g0 : 0 ≤ g) (g1 : g ≤ 127) : kindM (pad [48, b, g]) = 3 := by
  simp [kindM, pad, zerB, g1]
theorem byt_go {b g : Int} (b0 : 0 ≤ b) (b1 : b ≤ 255) (g0 : 0 ≤ g) (g1 : g ≤ 127) : Byt (pad [48, b, g]) := by
  intro x hx
  simp [pad] at hx
  omega
theorem vS_mk {n : Nat} {At Nu Bl Se : Int} {Wt : Bool} {Gp Dl : Int} (m0 : 1 ≤ n) (m1 : n ≤ 1023) (b0 : 0 ≤ Bl) (b1 : Bl ≤ 255) (s0 : 0 ≤ Se) (s1 : Se ≤ 255) (hs : Bl = 0 ∨ Se < Bl) (n0 : 0 ≤ Nu) (n1 : Nu ≤ 15) (g0 : 0 ≤ Gp) (g1 : Gp ≤ 127) (d0 : 0 ≤ Dl) (d1 : Dl ≤ 1099512627776)
    (h : (At = n ∧ Wt = false) ∨ (6 ≤ At ∧ At < n ∧ 7 < n ∧ (At - 6) % 7 = 0)) : vS n At Nu Bl Se Wt Gp Dl false = true := by
  unfold vS
  simp only [Bool.and_eq_true, msgB, cntB, decide_eq_true_eq, Bool.or_eq_true]
  refine ⟨⟨⟨⟨⟨⟨m0, m1⟩, ⟨⟨inB_mk b0 b1, inB_mk s0 s1⟩, hs⟩⟩, inB_mk n0 n1⟩, inB_mk g0 g1⟩, inB_mk d0 d1⟩, ?_⟩
  rcases h with ⟨h1, h2⟩ | ⟨h1, h2, h3, h4⟩
  · rw [if_pos h1, h2]; rfl
  · rw [if_neg (by omega)]
    simp [parB]
    omega
end Go.Proofs.Ytfjeediecmhedaa
