/-
  What one round of Carry does to the sender, in plain terms. No condition but the invariant.
-/
import Derived.Test.YtfjeediecmhedaaCar0
set_option linter.unusedVariables false
set_option linter.unusedSimpArgs false
namespace Go.Proofs.Ytfjeediecmhedaa
open Go.RowKit
theorem ok_gen {s : SS} (h : s.ok = true) : 1 ≤ s.l.length ∧ s.l.length ≤ 1023 ∧ 0 ≤ s.Bl ∧ s.Bl ≤ 255 ∧ 0 ≤ s.Se ∧ s.Se ≤ 255 ∧ (s.Bl = 0 ∨ s.Se < s.Bl) ∧ 0 ≤ s.Nu ∧ s.Nu ≤ 15 ∧ 0 ≤ s.Gp ∧ s.Gp ≤ 127 ∧ 0 ≤ s.Dl ∧ s.Dl ≤ 1099512627776 ∧ ((s.At = s.l.length ∧ s.Wt = false ∧ s.Fl = false) ∨ (6 ≤ s.At ∧ s.At < s.l.length ∧ 7 < s.l.length ∧ (s.At - 6) % 7 = 0 ∧ (s.Wt = false ∨ s.Fl = false))) := vS_gen h
/-- a round that waits for flow control -/
theorem step_ctl {l : List Int} {b g : Int} {k : Nat} {s : SS} {t : Int} (b0 : 0 ≤ b) (b1 : b ≤ 255) (g0 : 0 ≤ g) (g1 : g ≤ 127) (h : Inv l b g (k + 1) s) (ha : s.At < l.length) (hw : s.Wt = true) (t0 : 0 ≤ t) (t1 : t ≤ s.Dl) :
    ∃ s', ctlM s (pad [48, b, g]) t = (s', 0) ∧ Inv l b g k s' ∧ s'.At = s.At ∧ s'.Wt = false ∧ s'.Dl = t ∧ rem l b g (k + 1) s = pad [48, b, g] :: rem l b g k s' := by
  obtain ⟨hl, hok, hf, hd, hb, hk⟩ := h
  obtain ⟨m0, m1, B0, B1, S0, S1, hS, N0, N1, G0, G1, D0, D1, hA⟩ := ok_gen hok
  obtain ⟨sl, At, Nu, Bl, Se, Wt, Gp, Dl, Fl⟩ := s
  simp only at hl hok hf hd hb hk ha hw t1 m0 m1 B0 B1 S0 S1 hS N0 N1 G0 G1 D0 D1 hA
  subst hl hf hw
  have e1 : (pad [48, b, g]).getD 0 0 % 16 = 0 := by simp [pad]
  have e2 : (pad [48, b, g]).getD 1 0 = b := by simp [pad]
  have e3 : (pad [48, b, g]).getD 2 0 = g := by simp [pad]
  refine ⟨⟨sl, At, Nu, b, 0, false, g, t, false⟩, ?_, ?_, rfl, rfl, rfl, ?_⟩
  · unfold ctlM
    rw [if_neg (by rw [kind_go b0 b1 g0 g1]; simp), if_neg (by simp), if_neg (by simp; omega), if_pos e1, e2, e3]
  · refine ⟨rfl, ?_, rfl, ?_, fun _ _ => ⟨rfl, rfl⟩, fun _ => ?_⟩
    · show vS sl.length At Nu b 0 false g t false = true
      exact vS_mk m0 m1 b0 b1 (by omega) (by omega) (by omega) N0 N1 g0 g1 t0 (by omega) (.inr (by omega))
    · show t + 1000000 * (k : Int) ≤ 10000000000
      push_cast at hd
      omega
    · have := hk ha
      simp only [if_true] at this
      push_cast at this
      simp
      omega
  · unfold rem
    show carM sl b g (k + 1) At.toNat Nu Se true = pad [48, b, g] :: carM sl b g k At.toNat Nu 0 false
    conv => lhs; unfold carM
    rw [if_neg (by omega), if_pos rfl]
/-- a round that sends a consecutive frame -/
theorem step_nxt {l : List Int} {b g : Int} {k : Nat} {s : SS} {t : Int} (b0 : 0 ≤ b) (b1 : b ≤ 255) (g0 : 0 ≤ g) (g1 : g ≤ 127) (h : Inv l b g (k + 1) s) (ha : s.At < l.length) (hw : s.Wt = false) (t0 : 0 ≤ t) (t1 : s.Dl = t) :
    ∃ s' fr, nxtM s t = (s', fr, 0) ∧ Inv l b g k s' ∧ fr.length = 8 ∧ (s'.At < l.length → t ≤ s'.Dl) ∧ rem l b g (k + 1) s = fr :: rem l b g k s' := by
  obtain ⟨hl, hok, hf, hd, hb, hk⟩ := h
  obtain ⟨m0, m1, B0, B1, S0, S1, hS, N0, N1, G0, G1, D0, D1, hA⟩ := ok_gen hok
  obtain ⟨sl, At, Nu, Bl, Se, Wt, Gp, Dl, Fl⟩ := s
  simp only at hl hok hf hd hb hk ha hw t1 m0 m1 B0 B1 S0 S1 hS N0 N1 G0 G1 D0 D1 hA
  subst hl hf hw t1
  obtain ⟨rfl, rfl⟩ := hb ha rfl
  obtain ⟨a, rfl⟩ : ∃ a : Nat, At = a := ⟨At.toNat, by omega⟩
  have hk' := hk ha
  simp only [Bool.false_eq_true, if_false] at hk'
  push_cast at hk' hd
  have hneg : ¬ ((a : Int) = (sl.length : Int) ∨ false = true ∨ false = true) := by simp; omega
  have hA' : 6 ≤ (a : Int) ∧ 7 < sl.length ∧ ((a : Int) - 6) % 7 = 0 := by omega
  obtain ⟨a6, n7, am⟩ := hA'
  have hrem : ∀ X, carM sl Bl Gp (k + 1) a Nu Se false = X → rem sl Bl Gp (k + 1) ⟨sl, (a : Int), Nu, Bl, Se, false, Gp, Dl, false⟩ = X := fun X h => h
  by_cases h7 : sl.length ≤ a + 7
  · refine ⟨⟨sl, sl.length, 0, 0, 0, false, 0, 0, false⟩, pad ((32 + Nu) :: sl.drop a), ?_, ?_, ?_, ?_, ?_⟩
    · unfold nxtM
      rw [if_neg hneg, if_neg (by simp)]
      simp only [Int.toNat_natCast]
      rw [if_pos h7]
    · refine ⟨rfl, show vS sl.length (sl.length : Int) 0 0 0 false 0 0 false = true from vS_mk m0 m1 (by omega) (by omega) (by omega) (by omega) (by omega) (by omega) (by omega) (by omega) (by omega) (by omega) (by omega) (.inl ⟨rfl, rfl⟩), rfl, ?_, fun h => absurd h (by simp), fun h => absurd h (by simp)⟩
      show (0 : Int) + 1000000 * (k : Int) ≤ 10000000000
      omega
    · exact pad_len (by simp; omega)
    · intro h; exact absurd h (by simp)
    · apply hrem
      unfold carM
      rw [if_neg (by omega), if_neg (by simp), if_pos h7]
      unfold rem
      rw [carM_end _ _ _ _ _ _ _ _ (by simp)]
  · have h7e : (((a + 7 : Nat) : Int)) = (a : Int) + 7 := by omega
    have hfl : (pad ((32 + Nu) :: (sl.drop a).take 7)).length = 8 := pad_len (by simp; omega)
    have hN : nxtM ⟨sl, (a : Int), Nu, Bl, Se, false, Gp, Dl, false⟩ Dl = (if Bl = 0 then (⟨sl, (a : Int) + 7, (Nu + 1) % 16, Bl, 0, false, Gp, Dl + 1000 * Gp, false⟩, pad ((32 + Nu) :: (sl.drop a).take 7), 0) else if Se + 1 = Bl then (⟨sl, (a : Int) + 7, (Nu + 1) % 16, Bl, 0, true, Gp, Dl + 1000000, false⟩, pad ((32 + Nu) :: (sl.drop a).take 7), 0) else (⟨sl, (a : Int) + 7, (Nu + 1) % 16, Bl, Se + 1, false, Gp, Dl + 1000 * Gp, false⟩, pad ((32 + Nu) :: (sl.drop a).take 7), 0)) := by
      unfold nxtM
      rw [if_neg hneg, if_neg (by simp)]
      simp only [Int.toNat_natCast]
      rw [if_neg h7]
    have hC : carM sl Bl Gp (k + 1) a Nu Se false = pad ((32 + Nu) :: (sl.drop a).take 7) :: (if Bl = 0 then carM sl Bl Gp k (a + 7) ((Nu + 1) % 16) 0 false else if Se + 1 = Bl then carM sl Bl Gp k (a + 7) ((Nu + 1) % 16) 0 true else carM sl Bl Gp k (a + 7) ((Nu + 1) % 16) (Se + 1) false) := by
      conv => lhs; unfold carM
      rw [if_neg (by omega), if_neg (by simp), if_neg h7]
    have hat : ((a : Int) + 7).toNat = a + 7 := by omega
    by_cases hB : Bl = 0
    · rw [if_pos hB] at hN hC
      refine ⟨_, _, hN, ⟨rfl, ?_, rfl, ?_, fun _ _ => ⟨rfl, rfl⟩, fun _ => ?_⟩, hfl, fun _ => ?_, hrem _ ?_⟩
      · show vS sl.length ((a : Int) + 7) ((Nu + 1) % 16) Bl 0 false Gp (Dl + 1000 * Gp) false = true
        exact vS_mk m0 m1 B0 B1 (by omega) (by omega) (by omega) (by omega) (by omega) G0 G1 (by omega) (by omega) (.inr (by omega))
      · show Dl + 1000 * Gp + 1000000 * (k : Int) ≤ 10000000000
        omega
      · simp; omega
      · show Dl ≤ Dl + 1000 * Gp
        omega
      · rw [hC]; unfold rem; simp only [hat]
    by_cases hS' : Se + 1 = Bl
    · rw [if_neg hB, if_pos hS'] at hN hC
      refine ⟨_, _, hN, ⟨rfl, ?_, rfl, ?_, fun _ h => ?_, fun _ => ?_⟩, hfl, fun _ => ?_, hrem _ ?_⟩
      · show vS sl.length ((a : Int) + 7) ((Nu + 1) % 16) Bl 0 true Gp (Dl + 1000000) false = true
        exact vS_mk m0 m1 B0 B1 (by omega) (by omega) (by omega) (by omega) (by omega) G0 G1 (by omega) (by omega) (.inr (by omega))
      · show Dl + 1000000 + 1000000 * (k : Int) ≤ 10000000000
        omega
      · cases h
      · simp; omega
      · show Dl ≤ Dl + 1000000
        omega
      · rw [hC]; unfold rem; simp only [hat]
    · rw [if_neg hB, if_neg hS'] at hN hC
      refine ⟨_, _, hN, ⟨rfl, ?_, rfl, ?_, fun _ _ => ⟨rfl, rfl⟩, fun _ => ?_⟩, hfl, fun _ => ?_, hrem _ ?_⟩
      · show vS sl.length ((a : Int) + 7) ((Nu + 1) % 16) Bl (Se + 1) false Gp (Dl + 1000 * Gp) false = true
        exact vS_mk m0 m1 B0 B1 (by omega) (by omega) (by omega) (by omega) (by omega) G0 G1 (by omega) (by omega) (.inr (by omega))
      · show Dl + 1000 * Gp + 1000000 * (k : Int) ≤ 10000000000
        omega
      · simp; omega
      · show Dl ≤ Dl + 1000 * Gp
        omega
      · rw [hC]; unfold rem; simp only [hat]
end Go.Proofs.Ytfjeediecmhedaa
