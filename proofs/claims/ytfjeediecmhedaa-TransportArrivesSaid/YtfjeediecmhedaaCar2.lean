/-
  Laws for a slice of frames: a frame appended; the sender and the frame with which Carry begins. No condition but the slices' shape.
-/
import Derived.Test.YtfjeediecmhedaaCar1
set_option linter.unusedVariables false
set_option linter.unusedSimpArgs false
namespace Go.Proofs.Ytfjeediecmhedaa
open Go.RowKit
theorem info22 : (Try.prog.info? 22).map (fun i => (i.zero, i.size, i.bytes)) = some (some (.slice none 0 0), 1, 24) := by kernel_rfl
theorem own_keep {w w' : World} {base size n : Nat} {e : TypeId} {v : Value} {xs : List Value} (h : w.ownsRow base e size v n xs) (hb : Below w.heap.size w w') : w'.ownsRow base e size v n xs := by
  refine ⟨h.1, ?_⟩
  rcases h.2 with h2 | ⟨g, cap, cur, hv, hg0, hg, hr⟩
  · exact .inl h2
  · exact .inr ⟨g, cap, cur, hv, hg0, (hb.block g (Array.getElem?_eq_some_iff.1 hg).1).trans hg, hr⟩
theorem Out.below {w w' : World} {w0 P gR cap : Nat} {fs : List (List Int)} (h : Out w w0 P gR cap fs) (hb : Below w.heap.size w w') : Out w' w0 P gR cap fs := by
  obtain ⟨h0, xs, h1, h2⟩ := h
  exact ⟨h0, xs, own_keep h1 hb, h2.below hb⟩
theorem Out.set {w : World} {w0 P gR cap : Nat} {fs : List (List Int)} (h : Out w w0 P gR cap fs) (j : Nat) (u : Value) : Out (w.setCell ⟨P, j, none⟩ u) w0 P gR cap fs := by
  obtain ⟨h0, xs, h1, h2⟩ := h
  exact ⟨h0, xs, ownsRow_setCell_below h1 (Nat.lt_succ_self _) _, h2.set (fun h => h.2.1 rfl) _ _⟩
theorem Out.set9 {w : World} {w0 P gR cap : Nat} {fs : List (List Int)} (h : Out w w0 P gR cap fs) (v0 v1 v2 v3 v4 v5 v6 v7 v8 : Value) : Out (((((((((w.setCell ⟨P, 0, none⟩ v0).setCell ⟨P, 1, none⟩ v1).setCell ⟨P, 2, none⟩ v2).setCell ⟨P, 3, none⟩ v3).setCell ⟨P, 4, none⟩ v4).setCell ⟨P, 5, none⟩ v5).setCell ⟨P, 6, none⟩ v6).setCell ⟨P, 7, none⟩ v7).setCell ⟨P, 8, none⟩ v8) w0 P gR cap fs :=
  (((((((((h.set 0 v0).set 1 v1).set 2 v2).set 3 v3).set 4 v4).set 5 v5).set 6 v6).set 7 v7).set 8 v8)
/-- a frame is appended to a row of frames -/
theorem app_out {ops : Array Oper} {rest : List Oper} {o : Oper} {a : Act} {Q : Exit → Act → World → Prop} {w : World} (hgd : o.guard = none) (s x : Operand)
    (ho : o.op = .call { callee := .builtin .append, args := #[s, x], argTypes := #[25, 25] }) (w0 P gR cap m : Nat) (fs : List (List Int)) (f : List Int) (hm : fs.length = m) (hs : a.eval s = .slice (some ⟨gR, 0, none⟩) m cap) (hown : Out w w0 P gR cap fs)
    (g0 : Nat) (y : Value) (hx : a.eval x = .slice (some ⟨g0, 0, none⟩) 1 1) (hc : w.cell? ⟨g0, 0, none⟩ = some y) (hy : Sl w (Nb w0 P gR) y f) (hsm : m + 1 ≤ 1000000) (hbase : P + 1 ≤ w.heap.size)
    (h : ∀ g' cap' w', Out w' w0 P g' cap' (fs ++ [f]) → Kept w w' gR → (∀ b, b < w.heap.size → b ≠ gR → b ≠ g') → Below (P + 1) w w' → wpList Try.prog ops Q rest (a.put o.dst (.slice (some ⟨g', 0, none⟩) (m + 1) cap')) w') : wpList Try.prog ops Q (o :: rest) a w := by
  subst hm
  obtain ⟨i0, hi, hz0, hz1, hz2⟩ := info_parts info22
  obtain ⟨hgR, xs, hrow, hrw⟩ := hown
  have hy1 : y.oneCell' = true := by obtain ⟨B, d, rfl, _⟩ := hy; rfl
  refine wpList_append_lies w hgd s x 25 ho (P + 1) 22 i0 (.slice none 0 0) 1 24 Try.underlying25 hi hz0 hz1 hz2 rfl (by decide) _ fs.length xs hs hrow ⟨g0, 0, none⟩ 1 1 [y] hx rfl (fun j u hj => ?_) (by simpa using hy1) (by decide) (by unfold maxLen; omega) (by omega) hbase w.heap.size rfl ?_
  · rw [WideShapes.add_plain]
    have : j = 0 := by
      rcases Nat.eq_zero_or_pos j with h0 | h0
      · exact h0
      · rw [List.getElem?_eq_none (by simp; omega)] at hj; cases hj
    subst this
    simp at hj
    subst hj
    exact hc
  · intro g cap' w' h1 h2 h3 h4
    have hk : Kept w w' gR := ⟨h2.size, fun b hb hne => h2.block b hb (by intro e; simp [Value.ownBlock] at e; exact hne e)⟩
    have hg : g = gR ∨ g = w.heap.size := by
      rcases h3 with h3 | h3
      · left; simpa [Value.ownBlock] using h3.symm
      · exact .inr h3
    have hne : ∀ b, b < w.heap.size → b ≠ gR → b ≠ g := fun b hb hn => by rcases hg with rfl | rfl <;> omega
    refine h g cap' w' ⟨?_, xs ++ [y], by rw [List.length_append]; exact h1, ?_⟩ hk hne (grown_below hrow h2 hbase)
    · rcases hg with rfl | rfl <;> omega
    · have h5 : Rw w (fun b => Nb w0 P gR b ∧ Nb w0 P g b) (xs ++ [y]) (fs ++ [f]) := (hrw.snoc hy).imp (fun b hb hn => ⟨hn, hn.1, hn.2.1, hne b hb hn.2.2⟩)
      exact (h5.kept hk (fun h => h.1.2.2 rfl)).imp (fun b _ hb => hb.2)
theorem S3_of_SP {n : Nat} {At Nu Bl Se : Int} {Wt : Bool} {Gp Dl : Int} {Fl : Bool} {l fr : List Int} {e : Int} {w w' : World} {r : Ending} (hl : l.length = n) (h : SP n At Nu Bl Se Wt Gp Dl Fl l fr e w r w') : S3 ⟨l, At, Nu, Bl, Se, Wt, Gp, Dl, Fl⟩ fr e w r w' := by
  obtain ⟨A, c, B, m, d, hr, hc, hb, hf, hm, hd, hb2, hf2, hw⟩ := h
  exact ⟨A, n, c, B, m, d, hr, hl.symm, hc, hb, hf, hm, hd, hb2, hf2, hw⟩
theorem send12 (A : Option Addr) (n c : Nat) (l : List Int) (b g : Int) (hl : l.length = n) (hc : n ≤ c) (hm : msgB n = true) :
    ∃ s0 fr, (∀ w, Bt w A l → Calls Try.prog 19 #[.slice A n c, .int .i64 0] w (S3 s0 fr 0 w)) ∧ Inv l b g (2 * n) s0 ∧ fr.length = 8 ∧ allM l b g = fr :: rem l b g (2 * n) s0 := by
  have ht : timeB 0 = true := by decide
  obtain ⟨m0, m1⟩ : 1 ≤ n ∧ n ≤ 1023 := by simpa [msgB] using hm
  by_cases h7 : n ≤ 7
  · refine ⟨⟨l, n, 0, 0, 0, false, 0, 0, false⟩, pad ((n : Int) :: l), fun w hb => ?_, ⟨rfl, ?_, rfl, ?_, fun h => absurd h (by simp; omega), fun h => absurd h (by simp; omega)⟩, pad_len (by simp; omega), ?_⟩
    · refine (send19 A n c l 0 w hl hb hc).mono ?_
      rintro r w' (⟨h, _⟩ | ⟨_, h, _⟩ | ⟨_, _, _, h⟩ | ⟨_, _, h, _⟩)
      · rw [hm] at h; cases h
      · rw [ht] at h; cases h
      · exact S3_of_SP hl h
      · omega
    · show vS l.length (n : Int) 0 0 0 false 0 0 false = true
      exact vS_mk (by omega) (by omega) (by omega) (by omega) (by omega) (by omega) (by omega) (by omega) (by omega) (by omega) (by omega) (by omega) (by omega) (.inl ⟨by omega, rfl⟩)
    · show (0 : Int) + 1000000 * ((2 * n : Nat) : Int) ≤ 10000000000
      omega
    · unfold allM
      rw [if_pos (by omega)]
      unfold rem
      rw [carM_end _ _ _ _ _ _ _ _ (by simp; omega), hl]
  · refine ⟨⟨l, 6, 1, 0, 0, true, 0, 1000000, false⟩, pad ((16 + (n : Int) / 256) :: ((n : Int) % 256) :: l.take 6), fun w hb => ?_, ⟨rfl, ?_, rfl, ?_, fun _ h => (by cases h), fun _ => ?_⟩, pad_len (by simp; omega), ?_⟩
    · refine (send19 A n c l 0 w hl hb hc).mono ?_
      rintro r w' (⟨h, _⟩ | ⟨_, h, _⟩ | ⟨_, _, h, _⟩ | ⟨_, _, _, h⟩)
      · rw [hm] at h; cases h
      · rw [ht] at h; cases h
      · omega
      · exact S3_of_SP hl h
    · show vS l.length 6 1 0 0 true 0 1000000 false = true
      exact vS_mk (by omega) (by omega) (by omega) (by omega) (by omega) (by omega) (by omega) (by omega) (by omega) (by omega) (by omega) (by omega) (by omega) (.inr (by omega))
    · show (1000000 : Int) + 1000000 * ((2 * n : Nat) : Int) ≤ 10000000000
      omega
    · simp; omega
    · unfold allM
      rw [if_neg (by omega), hl]
      rfl
end Go.Proofs.Ytfjeediecmhedaa
