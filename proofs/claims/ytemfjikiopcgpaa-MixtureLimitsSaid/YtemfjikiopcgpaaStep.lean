/-
  The contract of mixture.Step. No condition but the slice's shape.
-/
import Derived.Test.YtemfjikiopcgpaaCopy
set_option linter.unusedVariables false
set_option linter.unusedSimpArgs false
namespace Go.Proofs.Ytemfjikiopcgpaa
open Go.RowKit
theorem okP_bd {a r : Bool} {F W : Int} {n : Nat} {f g : Nat → Int} (h : okP a r F W n f g = true) : 750 ≤ F ∧ F ≤ 1250 ∧ 0 ≤ W ∧ W ≤ 1000 ∧ n = 9 ∧ (a = true ∨ (F = 1000 ∧ W = 0 ∧ r = false)) ∧ allC f g n = true := by
  simp only [okP, Bool.and_eq_true, Bool.or_eq_true, decide_eq_true_eq, beq_iff_eq, Bool.not_eq_true'] at h
  obtain ⟨⟨⟨⟨h1, h2⟩, h3⟩, h4⟩, h5⟩ := h
  have := inB_t h1
  have := inB_t h2
  refine ⟨by omega, by omega, by omega, by omega, h3, ?_, h5⟩
  rcases h4 with h4 | ⟨⟨h4, h6⟩, h7⟩
  · exact .inl h4
  · exact .inr ⟨h4, h6, h7⟩
/-- the side after a step, the jump, and the state after a step -/
def nxR (r : Bool) (mv : Int) : Bool := decide (500 < mv) || (decide (400 ≤ mv) && r)
def stepA (a : Bool) (mv : Int) : Bool := if a then true else decide (mv < 300) || decide (600 < mv)
def stepR (a r : Bool) (mv : Int) : Bool := if a then nxR r mv else decide (600 < mv)
def stepF (a r : Bool) (F mv : Int) : Int := if a then clamp (F + (if nxR r mv then -1 else 1) * (if nxR r mv = r then 1 else 15)) 750 1250 else F
def stepW (a r : Bool) (W mv : Int) : Int := if a then (if nxR r mv = r then min 1000 (W + 1) else 0) else W
def stepE (a r : Bool) (F W : Int) (n : Nat) (f g : Nat → Int) (mv s c : Int) : Int := if okP a r F W n f g then (if pt s c && inB mv 0 20000 then 0 else 2) else 1
/-- what a step leaves -/
def StPost (e : Int) (a r : Bool) (F W : Int) (f g : Nat → Int) (w : World) (x : Ending) (w' : World) : Prop :=
  (e = 0 ∧ ∃ v, x = .returned (.tuple #[.agg #[.bool a, .bool r, .int .i64 F, .int .i64 W, v], .int .i64 0]) ∧ Own w' w.heap.size v 9 f g ∧ Below w.heap.size w w') ∨
  (e ≠ 0 ∧ x = .returned (.tuple #[.agg #[.bool false, .bool false, .int .i64 0, .int .i64 0, .slice none 0 0], .int .i64 e]) ∧ Below w.heap.size w w')
theorem step13_arg (a r : Bool) (F W : Int) (A : Option Addr) (n cap : Nat) (f g : Nat → Int) (mv s c : Int) (w : World) (hs : Cls w A n f g) (hl : n ≤ 9223372036854775807) (h : okP a r F W n f g = false) : Calls Try.prog 13 #[.agg #[.bool a, .bool r, .int .i64 F, .int .i64 W, .slice A n cap], .int .i64 mv, .int .i64 s, .int .i64 c] w (StPost 1 false false 0 0 f g w) := by
  have V := Lib.hid (fun w h => valid16 a r F W A n cap f g w h hl)
  have HS := Lib.hid hs
  clear hs
  rw [h] at V
  clear h
  go_enter Try.func13, Try.ntmps13
  go_wp2_with fail
  refine (V.out _ (HS.out.below (by go_grown))).mono ?_
  rintro x w1 ⟨rfl, hb1⟩
  have hg1 := chain (w := w) (by go_grown) hb1
  obtain ⟨hc1, hf1⟩ := bcell hb1
  have sz1 := hb1.size
  simp at sz1
  have p0 : w1.cell? ⟨w.heap.size, 0, none⟩ = some (.bool a) := (hc1 _ _ (by first | omega | (simp; done) | (simp; omega))).trans (by go_cell)
  have e0 : w1.frozen? ⟨w.heap.size, 0, none⟩ = false := (hf1 _ _ (by first | omega | (simp; done) | (simp; omega))).trans (by simp [go_sem])
  have p1 : w1.cell? ⟨w.heap.size, 1, none⟩ = some (.bool r) := (hc1 _ _ (by first | omega | (simp; done) | (simp; omega))).trans (by go_cell)
  have e1 : w1.frozen? ⟨w.heap.size, 1, none⟩ = false := (hf1 _ _ (by first | omega | (simp; done) | (simp; omega))).trans (by simp [go_sem])
  have p2 : w1.cell? ⟨w.heap.size, 2, none⟩ = some (.int .i64 F) := (hc1 _ _ (by first | omega | (simp; done) | (simp; omega))).trans (by go_cell)
  have e2 : w1.frozen? ⟨w.heap.size, 2, none⟩ = false := (hf1 _ _ (by first | omega | (simp; done) | (simp; omega))).trans (by simp [go_sem])
  have p3 : w1.cell? ⟨w.heap.size, 3, none⟩ = some (.int .i64 W) := (hc1 _ _ (by first | omega | (simp; done) | (simp; omega))).trans (by go_cell)
  have e3 : w1.frozen? ⟨w.heap.size, 3, none⟩ = false := (hf1 _ _ (by first | omega | (simp; done) | (simp; omega))).trans (by simp [go_sem])
  have p4 : w1.cell? ⟨w.heap.size, 4, none⟩ = some (.slice A n cap) := (hc1 _ _ (by first | omega | (simp; done) | (simp; omega))).trans (by go_cell)
  have e4 : w1.frozen? ⟨w.heap.size, 4, none⟩ = false := (hf1 _ _ (by first | omega | (simp; done) | (simp; omega))).trans (by simp [go_sem])
  have q0 : w1.cell? ⟨w.heap.size + 1, 0, none⟩ = some (.bool false) := (hc1 _ _ (by first | omega | (simp; done) | (simp; omega))).trans (by go_cell)
  have f0 : w1.frozen? ⟨w.heap.size + 1, 0, none⟩ = false := (hf1 _ _ (by first | omega | (simp; done) | (simp; omega))).trans (by simp [go_sem])
  have q1 : w1.cell? ⟨w.heap.size + 1, 1, none⟩ = some (.bool false) := (hc1 _ _ (by first | omega | (simp; done) | (simp; omega))).trans (by go_cell)
  have f1 : w1.frozen? ⟨w.heap.size + 1, 1, none⟩ = false := (hf1 _ _ (by first | omega | (simp; done) | (simp; omega))).trans (by simp [go_sem])
  have q2 : w1.cell? ⟨w.heap.size + 1, 2, none⟩ = some (.int .i64 0) := (hc1 _ _ (by first | omega | (simp; done) | (simp; omega))).trans (by go_cell)
  have f2 : w1.frozen? ⟨w.heap.size + 1, 2, none⟩ = false := (hf1 _ _ (by first | omega | (simp; done) | (simp; omega))).trans (by simp [go_sem])
  have q3 : w1.cell? ⟨w.heap.size + 1, 3, none⟩ = some (.int .i64 0) := (hc1 _ _ (by first | omega | (simp; done) | (simp; omega))).trans (by go_cell)
  have f3 : w1.frozen? ⟨w.heap.size + 1, 3, none⟩ = false := (hf1 _ _ (by first | omega | (simp; done) | (simp; omega))).trans (by simp [go_sem])
  have q4 : w1.cell? ⟨w.heap.size + 1, 4, none⟩ = some (.slice none 0 0) := (hc1 _ _ (by first | omega | (simp; done) | (simp; omega))).trans (by go_cell)
  have f4 : w1.frozen? ⟨w.heap.size + 1, 4, none⟩ = false := (hf1 _ _ (by first | omega | (simp; done) | (simp; omega))).trans (by simp [go_sem])
  have hz : w.heap.size + 1 < w1.heap.size := by omega
  have hz0 : w.heap.size < w1.heap.size := by omega
  clear hc1 hf1 hb1
  go_wp2_with fail
  refine bodyPost_ret (v := .tuple #[.agg #[.bool false, .bool false, .int .i64 0, .int .i64 0, .slice none 0 0], .int .i64 _]) (by simp [results, Try.results13, go_sem, p0, p1, p2, p3, p4, q0, q1, q2, q3, q4, hz, hz0] <;> first | rfl | exact ⟨rfl, rfl⟩) rfl (.inr ⟨by decide, rfl, by go_grown⟩)
theorem step13_range (a r : Bool) (F W : Int) (A : Option Addr) (n cap : Nat) (f g : Nat → Int) (mv s c : Int) (w : World) (hs : Cls w A n f g) (hl : n ≤ 9223372036854775807) (h : okP a r F W n f g = true) (h2 : (pt s c && inB mv 0 20000) = false) : Calls Try.prog 13 #[.agg #[.bool a, .bool r, .int .i64 F, .int .i64 W, .slice A n cap], .int .i64 mv, .int .i64 s, .int .i64 c] w (StPost 2 false false 0 0 f g w) := by
  have V := Lib.hid (fun w h => valid16 a r F W A n cap f g w h hl)
  have HS := Lib.hid hs
  clear hs
  rw [h] at V
  clear h
  have A1 := fun w => point28 s c w
  have A2 := fun w => in29 mv 0 20000 w
  generalize pt s c = b1 at A1 h2
  generalize inB mv 0 20000 = b2 at A2 h2
  have A1 := Lib.hid A1
  have A2 := Lib.hid A2
  go_enter Try.func13, Try.ntmps13
  go_wp2_with fail
  refine (V.out _ (HS.out.below (by go_grown))).mono ?_
  rintro x w1 ⟨rfl, hb1⟩
  have hg1 := chain (w := w) (by go_grown) hb1
  obtain ⟨hc1, hf1⟩ := bcell hb1
  have sz1 := hb1.size
  simp at sz1
  have p0 : w1.cell? ⟨w.heap.size, 0, none⟩ = some (.bool a) := (hc1 _ _ (by first | omega | (simp; done) | (simp; omega))).trans (by go_cell)
  have e0 : w1.frozen? ⟨w.heap.size, 0, none⟩ = false := (hf1 _ _ (by first | omega | (simp; done) | (simp; omega))).trans (by simp [go_sem])
  have p1 : w1.cell? ⟨w.heap.size, 1, none⟩ = some (.bool r) := (hc1 _ _ (by first | omega | (simp; done) | (simp; omega))).trans (by go_cell)
  have e1 : w1.frozen? ⟨w.heap.size, 1, none⟩ = false := (hf1 _ _ (by first | omega | (simp; done) | (simp; omega))).trans (by simp [go_sem])
  have p2 : w1.cell? ⟨w.heap.size, 2, none⟩ = some (.int .i64 F) := (hc1 _ _ (by first | omega | (simp; done) | (simp; omega))).trans (by go_cell)
  have e2 : w1.frozen? ⟨w.heap.size, 2, none⟩ = false := (hf1 _ _ (by first | omega | (simp; done) | (simp; omega))).trans (by simp [go_sem])
  have p3 : w1.cell? ⟨w.heap.size, 3, none⟩ = some (.int .i64 W) := (hc1 _ _ (by first | omega | (simp; done) | (simp; omega))).trans (by go_cell)
  have e3 : w1.frozen? ⟨w.heap.size, 3, none⟩ = false := (hf1 _ _ (by first | omega | (simp; done) | (simp; omega))).trans (by simp [go_sem])
  have p4 : w1.cell? ⟨w.heap.size, 4, none⟩ = some (.slice A n cap) := (hc1 _ _ (by first | omega | (simp; done) | (simp; omega))).trans (by go_cell)
  have e4 : w1.frozen? ⟨w.heap.size, 4, none⟩ = false := (hf1 _ _ (by first | omega | (simp; done) | (simp; omega))).trans (by simp [go_sem])
  have q0 : w1.cell? ⟨w.heap.size + 1, 0, none⟩ = some (.bool false) := (hc1 _ _ (by first | omega | (simp; done) | (simp; omega))).trans (by go_cell)
  have f0 : w1.frozen? ⟨w.heap.size + 1, 0, none⟩ = false := (hf1 _ _ (by first | omega | (simp; done) | (simp; omega))).trans (by simp [go_sem])
  have q1 : w1.cell? ⟨w.heap.size + 1, 1, none⟩ = some (.bool false) := (hc1 _ _ (by first | omega | (simp; done) | (simp; omega))).trans (by go_cell)
  have f1 : w1.frozen? ⟨w.heap.size + 1, 1, none⟩ = false := (hf1 _ _ (by first | omega | (simp; done) | (simp; omega))).trans (by simp [go_sem])
  have q2 : w1.cell? ⟨w.heap.size + 1, 2, none⟩ = some (.int .i64 0) := (hc1 _ _ (by first | omega | (simp; done) | (simp; omega))).trans (by go_cell)
  have f2 : w1.frozen? ⟨w.heap.size + 1, 2, none⟩ = false := (hf1 _ _ (by first | omega | (simp; done) | (simp; omega))).trans (by simp [go_sem])
  have q3 : w1.cell? ⟨w.heap.size + 1, 3, none⟩ = some (.int .i64 0) := (hc1 _ _ (by first | omega | (simp; done) | (simp; omega))).trans (by go_cell)
  have f3 : w1.frozen? ⟨w.heap.size + 1, 3, none⟩ = false := (hf1 _ _ (by first | omega | (simp; done) | (simp; omega))).trans (by simp [go_sem])
  have q4 : w1.cell? ⟨w.heap.size + 1, 4, none⟩ = some (.slice none 0 0) := (hc1 _ _ (by first | omega | (simp; done) | (simp; omega))).trans (by go_cell)
  have f4 : w1.frozen? ⟨w.heap.size + 1, 4, none⟩ = false := (hf1 _ _ (by first | omega | (simp; done) | (simp; omega))).trans (by simp [go_sem])
  have hz : w.heap.size + 1 < w1.heap.size := by omega
  have hz0 : w.heap.size < w1.heap.size := by omega
  clear hc1 hf1 hb1
  go_wp2_with fail
  refine (A1.out _).mono ?_
  rintro x w2 ⟨rfl, rfl⟩
  cases b1
  · clear h2
    go_wp2_with fail
    refine bodyPost_ret (v := .tuple #[.agg #[.bool false, .bool false, .int .i64 0, .int .i64 0, .slice none 0 0], .int .i64 _]) (by simp [results, Try.results13, go_sem, p0, p1, p2, p3, p4, q0, q1, q2, q3, q4, hz, hz0] <;> first | rfl | exact ⟨rfl, rfl⟩) rfl (.inr ⟨by decide, rfl, by go_grown⟩)
  · obtain rfl : b2 = false := by simpa using h2
    clear h2
    go_wp2_with fail
    refine (A2.out _).mono ?_
    rintro x w2 ⟨rfl, rfl⟩
    go_wp2_with fail
    refine bodyPost_ret (v := .tuple #[.agg #[.bool false, .bool false, .int .i64 0, .int .i64 0, .slice none 0 0], .int .i64 _]) (by simp [results, Try.results13, go_sem, p0, p1, p2, p3, p4, q0, q1, q2, q3, q4, hz, hz0] <;> first | rfl | exact ⟨rfl, rfl⟩) rfl (.inr ⟨by decide, rfl, by go_grown⟩)
theorem ret_pr {a a' r r' : Bool} {F F' W W' e : Int} {v : Value} (h1 : a = a') (h2 : r = r') (h3 : F = F') (h4 : W = W') : Ending.returned (.tuple #[.agg #[.bool a, .bool r, .int .i64 F, .int .i64 W, v], .int .i64 e]) = .returned (.tuple #[.agg #[.bool a', .bool r', .int .i64 F', .int .i64 W', v], .int .i64 e]) := by rw [h1, h2, h3, h4]
set_option maxHeartbeats 4000000 in
theorem step13_idle (r : Bool) (F W : Int) (A : Option Addr) (n cap : Nat) (f g : Nat → Int) (mv s c : Int) (w : World) (hs : Cls w A n f g) (hl : n ≤ 9223372036854775807) (h : okP false r F W n f g = true) (h2 : (pt s c && inB mv 0 20000) = true) : Calls Try.prog 13 #[.agg #[.bool false, .bool r, .int .i64 F, .int .i64 W, .slice A n cap], .int .i64 mv, .int .i64 s, .int .i64 c] w (StPost 0 (stepA false mv) (stepR false r mv) (stepF false r F mv) (stepW false r W mv) f g w) := by
  have V := Lib.hid (fun w h => valid16 false r F W A n cap f g w h hl)
  have HS := Lib.hid hs
  clear hs
  rw [h] at V
  obtain ⟨F0, F1, W0, W1, rfl, ha, _⟩ := okP_bd h
  clear h
  simp only [Bool.and_eq_true] at h2
  have A1 := fun w => point28 s c w
  have A2 := fun w => in29 mv 0 20000 w
  rw [h2.1] at A1
  rw [h2.2] at A2
  obtain ⟨m0, m1⟩ := inB_t h2.2
  replace A1 := Lib.hid A1
  replace A2 := Lib.hid A2
  clear h2
  obtain ⟨a', ha'⟩ : ∃ x, x = stepA false mv := ⟨_, rfl⟩
  obtain ⟨r', hr'⟩ : ∃ x, x = stepR false r mv := ⟨_, rfl⟩
  obtain ⟨F', hF'⟩ : ∃ x, x = stepF false r F mv := ⟨_, rfl⟩
  obtain ⟨W', hW'⟩ : ∃ x, x = stepW false r W mv := ⟨_, rfl⟩
  rw [← ha', ← hr', ← hF', ← hW']
  have E1 := Lib.hid ha'
  have E2 := Lib.hid hr'
  have E3 := Lib.hid hF'
  have E4 := Lib.hid hW'
  clear ha' hr' hF' hW'
  go_enter Try.func13, Try.ntmps13
  go_wp2_with fail
  refine (V.out _ (HS.out.below (by go_grown))).mono ?_
  rintro x w1 ⟨rfl, hb1⟩
  have hg1 := chain (w := w) (by go_grown) hb1
  obtain ⟨hc1, hf1⟩ := bcell hb1
  have sz1 := hb1.size
  simp at sz1
  have p0 : w1.cell? ⟨w.heap.size, 0, none⟩ = some (.bool false) := (hc1 _ _ (by first | omega | (simp; done) | (simp; omega))).trans (by go_cell)
  have e0 : w1.frozen? ⟨w.heap.size, 0, none⟩ = false := (hf1 _ _ (by first | omega | (simp; done) | (simp; omega))).trans (by simp [go_sem])
  have p1 : w1.cell? ⟨w.heap.size, 1, none⟩ = some (.bool r) := (hc1 _ _ (by first | omega | (simp; done) | (simp; omega))).trans (by go_cell)
  have e1 : w1.frozen? ⟨w.heap.size, 1, none⟩ = false := (hf1 _ _ (by first | omega | (simp; done) | (simp; omega))).trans (by simp [go_sem])
  have p2 : w1.cell? ⟨w.heap.size, 2, none⟩ = some (.int .i64 F) := (hc1 _ _ (by first | omega | (simp; done) | (simp; omega))).trans (by go_cell)
  have e2 : w1.frozen? ⟨w.heap.size, 2, none⟩ = false := (hf1 _ _ (by first | omega | (simp; done) | (simp; omega))).trans (by simp [go_sem])
  have p3 : w1.cell? ⟨w.heap.size, 3, none⟩ = some (.int .i64 W) := (hc1 _ _ (by first | omega | (simp; done) | (simp; omega))).trans (by go_cell)
  have e3 : w1.frozen? ⟨w.heap.size, 3, none⟩ = false := (hf1 _ _ (by first | omega | (simp; done) | (simp; omega))).trans (by simp [go_sem])
  have p4 : w1.cell? ⟨w.heap.size, 4, none⟩ = some (.slice A 9 cap) := (hc1 _ _ (by first | omega | (simp; done) | (simp; omega))).trans (by go_cell)
  have e4 : w1.frozen? ⟨w.heap.size, 4, none⟩ = false := (hf1 _ _ (by first | omega | (simp; done) | (simp; omega))).trans (by simp [go_sem])
  have q0 : w1.cell? ⟨w.heap.size + 1, 0, none⟩ = some (.bool false) := (hc1 _ _ (by first | omega | (simp; done) | (simp; omega))).trans (by go_cell)
  have f0 : w1.frozen? ⟨w.heap.size + 1, 0, none⟩ = false := (hf1 _ _ (by first | omega | (simp; done) | (simp; omega))).trans (by simp [go_sem])
  have q1 : w1.cell? ⟨w.heap.size + 1, 1, none⟩ = some (.bool false) := (hc1 _ _ (by first | omega | (simp; done) | (simp; omega))).trans (by go_cell)
  have f1 : w1.frozen? ⟨w.heap.size + 1, 1, none⟩ = false := (hf1 _ _ (by first | omega | (simp; done) | (simp; omega))).trans (by simp [go_sem])
  have q2 : w1.cell? ⟨w.heap.size + 1, 2, none⟩ = some (.int .i64 0) := (hc1 _ _ (by first | omega | (simp; done) | (simp; omega))).trans (by go_cell)
  have f2 : w1.frozen? ⟨w.heap.size + 1, 2, none⟩ = false := (hf1 _ _ (by first | omega | (simp; done) | (simp; omega))).trans (by simp [go_sem])
  have q3 : w1.cell? ⟨w.heap.size + 1, 3, none⟩ = some (.int .i64 0) := (hc1 _ _ (by first | omega | (simp; done) | (simp; omega))).trans (by go_cell)
  have f3 : w1.frozen? ⟨w.heap.size + 1, 3, none⟩ = false := (hf1 _ _ (by first | omega | (simp; done) | (simp; omega))).trans (by simp [go_sem])
  have q4 : w1.cell? ⟨w.heap.size + 1, 4, none⟩ = some (.slice none 0 0) := (hc1 _ _ (by first | omega | (simp; done) | (simp; omega))).trans (by go_cell)
  have f4 : w1.frozen? ⟨w.heap.size + 1, 4, none⟩ = false := (hf1 _ _ (by first | omega | (simp; done) | (simp; omega))).trans (by simp [go_sem])
  have hz : w.heap.size + 1 < w1.heap.size := by omega
  have hz0 : w.heap.size < w1.heap.size := by omega
  clear hc1 hf1 hb1
  go_wp2_with fail
  refine (A1.out _).mono ?_
  rintro x w2 ⟨rfl, rfl⟩
  go_wp2_with fail
  refine (A2.out _).mono ?_
  rintro x w2 ⟨rfl, rfl⟩
  go_wp2_with fail
  refine (copied30 false r F W A cap f g _ (HS.out.below hg1)).mono ?_
  rintro x w2 ⟨v, rfl, hown, hb2⟩
  have hg2 := chain hg1 hb2
  obtain ⟨hc2, hf2⟩ := bcell hb2
  have sz2 := hb2.size
  replace p0 := (hc2 _ _ hz0).trans p0
  replace e0 := (hf2 _ _ hz0).trans e0
  replace q0 := (hc2 _ _ hz).trans q0
  replace f0 := (hf2 _ _ hz).trans f0
  replace p1 := (hc2 _ _ hz0).trans p1
  replace e1 := (hf2 _ _ hz0).trans e1
  replace q1 := (hc2 _ _ hz).trans q1
  replace f1 := (hf2 _ _ hz).trans f1
  replace p2 := (hc2 _ _ hz0).trans p2
  replace e2 := (hf2 _ _ hz0).trans e2
  replace q2 := (hc2 _ _ hz).trans q2
  replace f2 := (hf2 _ _ hz).trans f2
  replace p3 := (hc2 _ _ hz0).trans p3
  replace e3 := (hf2 _ _ hz0).trans e3
  replace q3 := (hc2 _ _ hz).trans q3
  replace f3 := (hf2 _ _ hz).trans f3
  replace p4 := (hc2 _ _ hz0).trans p4
  replace e4 := (hf2 _ _ hz0).trans e4
  replace q4 := (hc2 _ _ hz).trans q4
  replace f4 := (hf2 _ _ hz).trans f4
  obtain ⟨b, c9, rfl, hbb, hbl, h9, hm9⟩ := own_some hown
  have HO := Lib.hid hown
  have zz : w.heap.size + 1 < w1.heap.size := hz
  have zz0 : w.heap.size < w1.heap.size := by omega
  replace hz : w.heap.size + 1 < w2.heap.size := by omega
  replace hz0 : w.heap.size < w2.heap.size := by omega
  clear hc2 hf2 hb2 hown hg1 V A1 A2 HS
  go_upto_region 6 with fail
  obtain ⟨w3, hw3⟩ : ∃ w3, w3 = (((((w2.setCell ⟨w.heap.size, 0, none⟩ (.bool false)).setCell ⟨w.heap.size, 1, none⟩ (.bool r)).setCell ⟨w.heap.size, 2, none⟩ (.int .i64 F)).setCell ⟨w.heap.size, 3, none⟩ (.int .i64 W)).setCell ⟨w.heap.size, 4, none⟩ (.slice (some ⟨b, 0, none⟩) 9 c9)) := ⟨_, rfl⟩
  replace p0 : w3.cell? ⟨w.heap.size, 0, none⟩ = some (.bool false) := by rw [hw3]; go_cell
  replace e0 : w3.frozen? ⟨w.heap.size, 0, none⟩ = false := by rw [hw3]; simp [go_sem, e0]
  replace q0 : w3.cell? ⟨w.heap.size + 1, 0, none⟩ = some (.bool false) := by rw [hw3]; simp [go_sem, q0]
  replace f0 : w3.frozen? ⟨w.heap.size + 1, 0, none⟩ = false := by rw [hw3]; simp [go_sem, f0]
  replace p1 : w3.cell? ⟨w.heap.size, 1, none⟩ = some (.bool r) := by rw [hw3]; go_cell
  replace e1 : w3.frozen? ⟨w.heap.size, 1, none⟩ = false := by rw [hw3]; simp [go_sem, e1]
  replace q1 : w3.cell? ⟨w.heap.size + 1, 1, none⟩ = some (.bool false) := by rw [hw3]; simp [go_sem, q1]
  replace f1 : w3.frozen? ⟨w.heap.size + 1, 1, none⟩ = false := by rw [hw3]; simp [go_sem, f1]
  replace p2 : w3.cell? ⟨w.heap.size, 2, none⟩ = some (.int .i64 F) := by rw [hw3]; go_cell
  replace e2 : w3.frozen? ⟨w.heap.size, 2, none⟩ = false := by rw [hw3]; simp [go_sem, e2]
  replace q2 : w3.cell? ⟨w.heap.size + 1, 2, none⟩ = some (.int .i64 0) := by rw [hw3]; simp [go_sem, q2]
  replace f2 : w3.frozen? ⟨w.heap.size + 1, 2, none⟩ = false := by rw [hw3]; simp [go_sem, f2]
  replace p3 : w3.cell? ⟨w.heap.size, 3, none⟩ = some (.int .i64 W) := by rw [hw3]; go_cell
  replace e3 : w3.frozen? ⟨w.heap.size, 3, none⟩ = false := by rw [hw3]; simp [go_sem, e3]
  replace q3 : w3.cell? ⟨w.heap.size + 1, 3, none⟩ = some (.int .i64 0) := by rw [hw3]; simp [go_sem, q3]
  replace f3 : w3.frozen? ⟨w.heap.size + 1, 3, none⟩ = false := by rw [hw3]; simp [go_sem, f3]
  replace p4 : w3.cell? ⟨w.heap.size, 4, none⟩ = some (.slice (some ⟨b, 0, none⟩) 9 c9) := by rw [hw3]; go_cell
  replace e4 : w3.frozen? ⟨w.heap.size, 4, none⟩ = false := by rw [hw3]; simp [go_sem, e4]
  replace q4 : w3.cell? ⟨w.heap.size + 1, 4, none⟩ = some (.slice none 0 0) := by rw [hw3]; simp [go_sem, q4]
  replace f4 : w3.frozen? ⟨w.heap.size + 1, 4, none⟩ = false := by rw [hw3]; simp [go_sem, f4]
  have hg3 : Below w.heap.size w w3 := by rw [hw3]; go_grown
  have hz' : w.heap.size + 1 < w3.heap.size := by rw [hw3]; simpa using hz
  replace HO : Hid (w3.ownsRow w1.heap.size 52 2 (.slice (some ⟨b, 0, none⟩) 9 c9) 9 (crow f g 9)) := by
    show w3.ownsRow _ _ _ _ _ _
    rw [hw3]
    repeat refine ownsRow_setCell_below ?_ zz0 _
    exact HO.out
  rw [← hw3]
  clear hw3 hg2 hz hz0
  have hz := hz'
  have hz0 : w.heap.size < w3.heap.size := by omega
  clear hz'
  obtain ⟨rfl, rfl, rfl⟩ : F = 1000 ∧ W = 0 ∧ r = false := by simpa using ha
  clear ha
  rcases (by omega : mv < 300 ∨ (300 ≤ mv ∧ mv ≤ 600) ∨ 600 < mv) with k1 | ⟨k1, k2⟩ | k1
  all_goals
    go_wp2_with fail
    refine bodyPost_ret (v := .tuple #[.agg #[.bool _, .bool _, .int .i64 _, .int .i64 _, .slice (some ⟨b, 0, none⟩) 9 c9], .int .i64 _]) (by simp [results, Try.results13, go_sem, p0, p1, p2, p3, p4, q0, q1, q2, q3, q4, hz, hz0] <;> first | rfl | ((repeat' apply And.intro) <;> rfl)) rfl (.inl ⟨rfl, _, ret_pr ?_ ?_ ?_ ?_, ?_, by go_grown⟩)
    · rw [E1.out]; simp [stepA]; try omega
    · rw [E2.out]; simp [stepR]; try omega
    · rw [E3.out]; simp [stepF]
    · rw [E4.out]; simp [stepW]
    refine own_mono (base := w1.heap.size) ?_ (by omega)
    repeat refine ownsRow_setCell_below ?_ (by first | omega | (simp; done) | (simp; omega)) _
    exact HO.out
set_option maxHeartbeats 4000000 in
theorem step13_hi (r : Bool) (F W : Int) (A : Option Addr) (n cap : Nat) (f g : Nat → Int) (mv s c : Int) (w : World) (hs : Cls w A n f g) (hl : n ≤ 9223372036854775807) (h : okP true r F W n f g = true) (h2 : (pt s c && inB mv 0 20000) = true) (hM : 500 < mv) : Calls Try.prog 13 #[.agg #[.bool true, .bool r, .int .i64 F, .int .i64 W, .slice A n cap], .int .i64 mv, .int .i64 s, .int .i64 c] w (StPost 0 (stepA true mv) (stepR true r mv) (stepF true r F mv) (stepW true r W mv) f g w) := by
  have V := Lib.hid (fun w h => valid16 true r F W A n cap f g w h hl)
  have HS := Lib.hid hs
  clear hs
  rw [h] at V
  obtain ⟨F0, F1, W0, W1, rfl, ha, _⟩ := okP_bd h
  clear h
  simp only [Bool.and_eq_true] at h2
  have A1 := fun w => point28 s c w
  have A2 := fun w => in29 mv 0 20000 w
  rw [h2.1] at A1
  rw [h2.2] at A2
  obtain ⟨m0, m1⟩ := inB_t h2.2
  replace A1 := Lib.hid A1
  replace A2 := Lib.hid A2
  clear h2
  obtain ⟨a', ha'⟩ : ∃ x, x = stepA true mv := ⟨_, rfl⟩
  obtain ⟨r', hr'⟩ : ∃ x, x = stepR true r mv := ⟨_, rfl⟩
  obtain ⟨F', hF'⟩ : ∃ x, x = stepF true r F mv := ⟨_, rfl⟩
  obtain ⟨W', hW'⟩ : ∃ x, x = stepW true r W mv := ⟨_, rfl⟩
  rw [← ha', ← hr', ← hF', ← hW']
  have E1 := Lib.hid ha'
  have E2 := Lib.hid hr'
  have E3 := Lib.hid hF'
  have E4 := Lib.hid hW'
  clear ha' hr' hF' hW'
  go_enter Try.func13, Try.ntmps13
  go_wp2_with fail
  refine (V.out _ (HS.out.below (by go_grown))).mono ?_
  rintro x w1 ⟨rfl, hb1⟩
  have hg1 := chain (w := w) (by go_grown) hb1
  obtain ⟨hc1, hf1⟩ := bcell hb1
  have sz1 := hb1.size
  simp at sz1
  have p0 : w1.cell? ⟨w.heap.size, 0, none⟩ = some (.bool true) := (hc1 _ _ (by first | omega | (simp; done) | (simp; omega))).trans (by go_cell)
  have e0 : w1.frozen? ⟨w.heap.size, 0, none⟩ = false := (hf1 _ _ (by first | omega | (simp; done) | (simp; omega))).trans (by simp [go_sem])
  have p1 : w1.cell? ⟨w.heap.size, 1, none⟩ = some (.bool r) := (hc1 _ _ (by first | omega | (simp; done) | (simp; omega))).trans (by go_cell)
  have e1 : w1.frozen? ⟨w.heap.size, 1, none⟩ = false := (hf1 _ _ (by first | omega | (simp; done) | (simp; omega))).trans (by simp [go_sem])
  have p2 : w1.cell? ⟨w.heap.size, 2, none⟩ = some (.int .i64 F) := (hc1 _ _ (by first | omega | (simp; done) | (simp; omega))).trans (by go_cell)
  have e2 : w1.frozen? ⟨w.heap.size, 2, none⟩ = false := (hf1 _ _ (by first | omega | (simp; done) | (simp; omega))).trans (by simp [go_sem])
  have p3 : w1.cell? ⟨w.heap.size, 3, none⟩ = some (.int .i64 W) := (hc1 _ _ (by first | omega | (simp; done) | (simp; omega))).trans (by go_cell)
  have e3 : w1.frozen? ⟨w.heap.size, 3, none⟩ = false := (hf1 _ _ (by first | omega | (simp; done) | (simp; omega))).trans (by simp [go_sem])
  have p4 : w1.cell? ⟨w.heap.size, 4, none⟩ = some (.slice A 9 cap) := (hc1 _ _ (by first | omega | (simp; done) | (simp; omega))).trans (by go_cell)
  have e4 : w1.frozen? ⟨w.heap.size, 4, none⟩ = false := (hf1 _ _ (by first | omega | (simp; done) | (simp; omega))).trans (by simp [go_sem])
  have q0 : w1.cell? ⟨w.heap.size + 1, 0, none⟩ = some (.bool false) := (hc1 _ _ (by first | omega | (simp; done) | (simp; omega))).trans (by go_cell)
  have f0 : w1.frozen? ⟨w.heap.size + 1, 0, none⟩ = false := (hf1 _ _ (by first | omega | (simp; done) | (simp; omega))).trans (by simp [go_sem])
  have q1 : w1.cell? ⟨w.heap.size + 1, 1, none⟩ = some (.bool false) := (hc1 _ _ (by first | omega | (simp; done) | (simp; omega))).trans (by go_cell)
  have f1 : w1.frozen? ⟨w.heap.size + 1, 1, none⟩ = false := (hf1 _ _ (by first | omega | (simp; done) | (simp; omega))).trans (by simp [go_sem])
  have q2 : w1.cell? ⟨w.heap.size + 1, 2, none⟩ = some (.int .i64 0) := (hc1 _ _ (by first | omega | (simp; done) | (simp; omega))).trans (by go_cell)
  have f2 : w1.frozen? ⟨w.heap.size + 1, 2, none⟩ = false := (hf1 _ _ (by first | omega | (simp; done) | (simp; omega))).trans (by simp [go_sem])
  have q3 : w1.cell? ⟨w.heap.size + 1, 3, none⟩ = some (.int .i64 0) := (hc1 _ _ (by first | omega | (simp; done) | (simp; omega))).trans (by go_cell)
  have f3 : w1.frozen? ⟨w.heap.size + 1, 3, none⟩ = false := (hf1 _ _ (by first | omega | (simp; done) | (simp; omega))).trans (by simp [go_sem])
  have q4 : w1.cell? ⟨w.heap.size + 1, 4, none⟩ = some (.slice none 0 0) := (hc1 _ _ (by first | omega | (simp; done) | (simp; omega))).trans (by go_cell)
  have f4 : w1.frozen? ⟨w.heap.size + 1, 4, none⟩ = false := (hf1 _ _ (by first | omega | (simp; done) | (simp; omega))).trans (by simp [go_sem])
  have hz : w.heap.size + 1 < w1.heap.size := by omega
  have hz0 : w.heap.size < w1.heap.size := by omega
  clear hc1 hf1 hb1
  go_wp2_with fail
  refine (A1.out _).mono ?_
  rintro x w2 ⟨rfl, rfl⟩
  go_wp2_with fail
  refine (A2.out _).mono ?_
  rintro x w2 ⟨rfl, rfl⟩
  go_wp2_with fail
  refine (copied30 true r F W A cap f g _ (HS.out.below hg1)).mono ?_
  rintro x w2 ⟨v, rfl, hown, hb2⟩
  have hg2 := chain hg1 hb2
  obtain ⟨hc2, hf2⟩ := bcell hb2
  have sz2 := hb2.size
  replace p0 := (hc2 _ _ hz0).trans p0
  replace e0 := (hf2 _ _ hz0).trans e0
  replace q0 := (hc2 _ _ hz).trans q0
  replace f0 := (hf2 _ _ hz).trans f0
  replace p1 := (hc2 _ _ hz0).trans p1
  replace e1 := (hf2 _ _ hz0).trans e1
  replace q1 := (hc2 _ _ hz).trans q1
  replace f1 := (hf2 _ _ hz).trans f1
  replace p2 := (hc2 _ _ hz0).trans p2
  replace e2 := (hf2 _ _ hz0).trans e2
  replace q2 := (hc2 _ _ hz).trans q2
  replace f2 := (hf2 _ _ hz).trans f2
  replace p3 := (hc2 _ _ hz0).trans p3
  replace e3 := (hf2 _ _ hz0).trans e3
  replace q3 := (hc2 _ _ hz).trans q3
  replace f3 := (hf2 _ _ hz).trans f3
  replace p4 := (hc2 _ _ hz0).trans p4
  replace e4 := (hf2 _ _ hz0).trans e4
  replace q4 := (hc2 _ _ hz).trans q4
  replace f4 := (hf2 _ _ hz).trans f4
  obtain ⟨b, c9, rfl, hbb, hbl, h9, hm9⟩ := own_some hown
  have HO := Lib.hid hown
  have zz : w.heap.size + 1 < w1.heap.size := hz
  have zz0 : w.heap.size < w1.heap.size := by omega
  replace hz : w.heap.size + 1 < w2.heap.size := by omega
  replace hz0 : w.heap.size < w2.heap.size := by omega
  clear hc2 hf2 hb2 hown hg1 V A1 A2 HS
  go_upto_region 6 with fail
  obtain ⟨w3, hw3⟩ : ∃ w3, w3 = (((((w2.setCell ⟨w.heap.size, 0, none⟩ (.bool true)).setCell ⟨w.heap.size, 1, none⟩ (.bool r)).setCell ⟨w.heap.size, 2, none⟩ (.int .i64 F)).setCell ⟨w.heap.size, 3, none⟩ (.int .i64 W)).setCell ⟨w.heap.size, 4, none⟩ (.slice (some ⟨b, 0, none⟩) 9 c9)) := ⟨_, rfl⟩
  replace p0 : w3.cell? ⟨w.heap.size, 0, none⟩ = some (.bool true) := by rw [hw3]; go_cell
  replace e0 : w3.frozen? ⟨w.heap.size, 0, none⟩ = false := by rw [hw3]; simp [go_sem, e0]
  replace q0 : w3.cell? ⟨w.heap.size + 1, 0, none⟩ = some (.bool false) := by rw [hw3]; simp [go_sem, q0]
  replace f0 : w3.frozen? ⟨w.heap.size + 1, 0, none⟩ = false := by rw [hw3]; simp [go_sem, f0]
  replace p1 : w3.cell? ⟨w.heap.size, 1, none⟩ = some (.bool r) := by rw [hw3]; go_cell
  replace e1 : w3.frozen? ⟨w.heap.size, 1, none⟩ = false := by rw [hw3]; simp [go_sem, e1]
  replace q1 : w3.cell? ⟨w.heap.size + 1, 1, none⟩ = some (.bool false) := by rw [hw3]; simp [go_sem, q1]
  replace f1 : w3.frozen? ⟨w.heap.size + 1, 1, none⟩ = false := by rw [hw3]; simp [go_sem, f1]
  replace p2 : w3.cell? ⟨w.heap.size, 2, none⟩ = some (.int .i64 F) := by rw [hw3]; go_cell
  replace e2 : w3.frozen? ⟨w.heap.size, 2, none⟩ = false := by rw [hw3]; simp [go_sem, e2]
  replace q2 : w3.cell? ⟨w.heap.size + 1, 2, none⟩ = some (.int .i64 0) := by rw [hw3]; simp [go_sem, q2]
  replace f2 : w3.frozen? ⟨w.heap.size + 1, 2, none⟩ = false := by rw [hw3]; simp [go_sem, f2]
  replace p3 : w3.cell? ⟨w.heap.size, 3, none⟩ = some (.int .i64 W) := by rw [hw3]; go_cell
  replace e3 : w3.frozen? ⟨w.heap.size, 3, none⟩ = false := by rw [hw3]; simp [go_sem, e3]
  replace q3 : w3.cell? ⟨w.heap.size + 1, 3, none⟩ = some (.int .i64 0) := by rw [hw3]; simp [go_sem, q3]
  replace f3 : w3.frozen? ⟨w.heap.size + 1, 3, none⟩ = false := by rw [hw3]; simp [go_sem, f3]
  replace p4 : w3.cell? ⟨w.heap.size, 4, none⟩ = some (.slice (some ⟨b, 0, none⟩) 9 c9) := by rw [hw3]; go_cell
  replace e4 : w3.frozen? ⟨w.heap.size, 4, none⟩ = false := by rw [hw3]; simp [go_sem, e4]
  replace q4 : w3.cell? ⟨w.heap.size + 1, 4, none⟩ = some (.slice none 0 0) := by rw [hw3]; simp [go_sem, q4]
  replace f4 : w3.frozen? ⟨w.heap.size + 1, 4, none⟩ = false := by rw [hw3]; simp [go_sem, f4]
  have hg3 : Below w.heap.size w w3 := by rw [hw3]; go_grown
  have hz' : w.heap.size + 1 < w3.heap.size := by rw [hw3]; simpa using hz
  replace HO : Hid (w3.ownsRow w1.heap.size 52 2 (.slice (some ⟨b, 0, none⟩) 9 c9) 9 (crow f g 9)) := by
    show w3.ownsRow _ _ _ _ _ _
    rw [hw3]
    repeat refine ownsRow_setCell_below ?_ zz0 _
    exact HO.out
  rw [← hw3]
  clear hw3 hg2 hz hz0
  have hz := hz'
  have hz0 : w.heap.size < w3.heap.size := by omega
  clear hz'
  clear ha
  obtain k1 := hM
  cases r
  · have hn : Hid (nxR false mv = true) := by show nxR false mv = true; simp [nxR]; try omega
    go_wp2_with fail
    all_goals
      refine (clamp31 _ _ _ _).mono ?_
      rintro x w3 ⟨rfl, rfl⟩
      go_wp2_with fail
      refine bodyPost_ret (v := .tuple #[.agg #[.bool _, .bool _, .int .i64 _, .int .i64 _, .slice (some ⟨b, 0, none⟩) 9 c9], .int .i64 _]) (by simp [results, Try.results13, go_sem, p0, p1, p2, p3, p4, q0, q1, q2, q3, q4, hz, hz0] <;> first | rfl | ((repeat' apply And.intro) <;> rfl)) rfl (.inl ⟨rfl, _, ret_pr ?_ ?_ ?_ ?_, ?_, by go_grown⟩)
      · rw [E1.out]; simp [stepA]
      · rw [E2.out]; simp [stepR, hn.out]
      · rw [E3.out]; simp [stepF, hn.out]
      · rw [E4.out]; simp [stepW, hn.out]; try omega
      refine own_mono (base := w1.heap.size) ?_ (by omega)
      repeat refine ownsRow_setCell_below ?_ (by first | omega | (simp; done) | (simp; omega)) _
      exact HO.out
  · have hn : Hid (nxR true mv = true) := by show nxR true mv = true; simp [nxR]; try omega
    rcases (by omega : W = 1000 ∨ W < 1000) with rfl | k3
    all_goals
      go_wp2_with fail
      all_goals
        refine (clamp31 _ _ _ _).mono ?_
        rintro x w3 ⟨rfl, rfl⟩
        go_wp2_with fail
        refine bodyPost_ret (v := .tuple #[.agg #[.bool _, .bool _, .int .i64 _, .int .i64 _, .slice (some ⟨b, 0, none⟩) 9 c9], .int .i64 _]) (by simp [results, Try.results13, go_sem, p0, p1, p2, p3, p4, q0, q1, q2, q3, q4, hz, hz0] <;> first | rfl | ((repeat' apply And.intro) <;> rfl)) rfl (.inl ⟨rfl, _, ret_pr ?_ ?_ ?_ ?_, ?_, by go_grown⟩)
        · rw [E1.out]; simp [stepA]
        · rw [E2.out]; simp [stepR, hn.out]
        · rw [E3.out]; simp [stepF, hn.out]
        · rw [E4.out]; simp [stepW, hn.out]; try omega
        refine own_mono (base := w1.heap.size) ?_ (by omega)
        repeat refine ownsRow_setCell_below ?_ (by first | omega | (simp; done) | (simp; omega)) _
        exact HO.out
set_option maxHeartbeats 4000000 in
theorem step13_mid (r : Bool) (F W : Int) (A : Option Addr) (n cap : Nat) (f g : Nat → Int) (mv s c : Int) (w : World) (hs : Cls w A n f g) (hl : n ≤ 9223372036854775807) (h : okP true r F W n f g = true) (h2 : (pt s c && inB mv 0 20000) = true) (hM : 400 ≤ mv ∧ mv ≤ 500) : Calls Try.prog 13 #[.agg #[.bool true, .bool r, .int .i64 F, .int .i64 W, .slice A n cap], .int .i64 mv, .int .i64 s, .int .i64 c] w (StPost 0 (stepA true mv) (stepR true r mv) (stepF true r F mv) (stepW true r W mv) f g w) := by
  have V := Lib.hid (fun w h => valid16 true r F W A n cap f g w h hl)
  have HS := Lib.hid hs
  clear hs
  rw [h] at V
  obtain ⟨F0, F1, W0, W1, rfl, ha, _⟩ := okP_bd h
  clear h
  simp only [Bool.and_eq_true] at h2
  have A1 := fun w => point28 s c w
  have A2 := fun w => in29 mv 0 20000 w
  rw [h2.1] at A1
  rw [h2.2] at A2
  obtain ⟨m0, m1⟩ := inB_t h2.2
  replace A1 := Lib.hid A1
  replace A2 := Lib.hid A2
  clear h2
  obtain ⟨a', ha'⟩ : ∃ x, x = stepA true mv := ⟨_, rfl⟩
  obtain ⟨r', hr'⟩ : ∃ x, x = stepR true r mv := ⟨_, rfl⟩
  obtain ⟨F', hF'⟩ : ∃ x, x = stepF true r F mv := ⟨_, rfl⟩
  obtain ⟨W', hW'⟩ : ∃ x, x = stepW true r W mv := ⟨_, rfl⟩
  rw [← ha', ← hr', ← hF', ← hW']
  have E1 := Lib.hid ha'
  have E2 := Lib.hid hr'
  have E3 := Lib.hid hF'
  have E4 := Lib.hid hW'
  clear ha' hr' hF' hW'
  go_enter Try.func13, Try.ntmps13
  go_wp2_with fail
  refine (V.out _ (HS.out.below (by go_grown))).mono ?_
  rintro x w1 ⟨rfl, hb1⟩
  have hg1 := chain (w := w) (by go_grown) hb1
  obtain ⟨hc1, hf1⟩ := bcell hb1
  have sz1 := hb1.size
  simp at sz1
  have p0 : w1.cell? ⟨w.heap.size, 0, none⟩ = some (.bool true) := (hc1 _ _ (by first | omega | (simp; done) | (simp; omega))).trans (by go_cell)
  have e0 : w1.frozen? ⟨w.heap.size, 0, none⟩ = false := (hf1 _ _ (by first | omega | (simp; done) | (simp; omega))).trans (by simp [go_sem])
  have p1 : w1.cell? ⟨w.heap.size, 1, none⟩ = some (.bool r) := (hc1 _ _ (by first | omega | (simp; done) | (simp; omega))).trans (by go_cell)
  have e1 : w1.frozen? ⟨w.heap.size, 1, none⟩ = false := (hf1 _ _ (by first | omega | (simp; done) | (simp; omega))).trans (by simp [go_sem])
  have p2 : w1.cell? ⟨w.heap.size, 2, none⟩ = some (.int .i64 F) := (hc1 _ _ (by first | omega | (simp; done) | (simp; omega))).trans (by go_cell)
  have e2 : w1.frozen? ⟨w.heap.size, 2, none⟩ = false := (hf1 _ _ (by first | omega | (simp; done) | (simp; omega))).trans (by simp [go_sem])
  have p3 : w1.cell? ⟨w.heap.size, 3, none⟩ = some (.int .i64 W) := (hc1 _ _ (by first | omega | (simp; done) | (simp; omega))).trans (by go_cell)
  have e3 : w1.frozen? ⟨w.heap.size, 3, none⟩ = false := (hf1 _ _ (by first | omega | (simp; done) | (simp; omega))).trans (by simp [go_sem])
  have p4 : w1.cell? ⟨w.heap.size, 4, none⟩ = some (.slice A 9 cap) := (hc1 _ _ (by first | omega | (simp; done) | (simp; omega))).trans (by go_cell)
  have e4 : w1.frozen? ⟨w.heap.size, 4, none⟩ = false := (hf1 _ _ (by first | omega | (simp; done) | (simp; omega))).trans (by simp [go_sem])
  have q0 : w1.cell? ⟨w.heap.size + 1, 0, none⟩ = some (.bool false) := (hc1 _ _ (by first | omega | (simp; done) | (simp; omega))).trans (by go_cell)
  have f0 : w1.frozen? ⟨w.heap.size + 1, 0, none⟩ = false := (hf1 _ _ (by first | omega | (simp; done) | (simp; omega))).trans (by simp [go_sem])
  have q1 : w1.cell? ⟨w.heap.size + 1, 1, none⟩ = some (.bool false) := (hc1 _ _ (by first | omega | (simp; done) | (simp; omega))).trans (by go_cell)
  have f1 : w1.frozen? ⟨w.heap.size + 1, 1, none⟩ = false := (hf1 _ _ (by first | omega | (simp; done) | (simp; omega))).trans (by simp [go_sem])
  have q2 : w1.cell? ⟨w.heap.size + 1, 2, none⟩ = some (.int .i64 0) := (hc1 _ _ (by first | omega | (simp; done) | (simp; omega))).trans (by go_cell)
  have f2 : w1.frozen? ⟨w.heap.size + 1, 2, none⟩ = false := (hf1 _ _ (by first | omega | (simp; done) | (simp; omega))).trans (by simp [go_sem])
  have q3 : w1.cell? ⟨w.heap.size + 1, 3, none⟩ = some (.int .i64 0) := (hc1 _ _ (by first | omega | (simp; done) | (simp; omega))).trans (by go_cell)
  have f3 : w1.frozen? ⟨w.heap.size + 1, 3, none⟩ = false := (hf1 _ _ (by first | omega | (simp; done) | (simp; omega))).trans (by simp [go_sem])
  have q4 : w1.cell? ⟨w.heap.size + 1, 4, none⟩ = some (.slice none 0 0) := (hc1 _ _ (by first | omega | (simp; done) | (simp; omega))).trans (by go_cell)
  have f4 : w1.frozen? ⟨w.heap.size + 1, 4, none⟩ = false := (hf1 _ _ (by first | omega | (simp; done) | (simp; omega))).trans (by simp [go_sem])
  have hz : w.heap.size + 1 < w1.heap.size := by omega
  have hz0 : w.heap.size < w1.heap.size := by omega
  clear hc1 hf1 hb1
  go_wp2_with fail
  refine (A1.out _).mono ?_
  rintro x w2 ⟨rfl, rfl⟩
  go_wp2_with fail
  refine (A2.out _).mono ?_
  rintro x w2 ⟨rfl, rfl⟩
  go_wp2_with fail
  refine (copied30 true r F W A cap f g _ (HS.out.below hg1)).mono ?_
  rintro x w2 ⟨v, rfl, hown, hb2⟩
  have hg2 := chain hg1 hb2
  obtain ⟨hc2, hf2⟩ := bcell hb2
  have sz2 := hb2.size
  replace p0 := (hc2 _ _ hz0).trans p0
  replace e0 := (hf2 _ _ hz0).trans e0
  replace q0 := (hc2 _ _ hz).trans q0
  replace f0 := (hf2 _ _ hz).trans f0
  replace p1 := (hc2 _ _ hz0).trans p1
  replace e1 := (hf2 _ _ hz0).trans e1
  replace q1 := (hc2 _ _ hz).trans q1
  replace f1 := (hf2 _ _ hz).trans f1
  replace p2 := (hc2 _ _ hz0).trans p2
  replace e2 := (hf2 _ _ hz0).trans e2
  replace q2 := (hc2 _ _ hz).trans q2
  replace f2 := (hf2 _ _ hz).trans f2
  replace p3 := (hc2 _ _ hz0).trans p3
  replace e3 := (hf2 _ _ hz0).trans e3
  replace q3 := (hc2 _ _ hz).trans q3
  replace f3 := (hf2 _ _ hz).trans f3
  replace p4 := (hc2 _ _ hz0).trans p4
  replace e4 := (hf2 _ _ hz0).trans e4
  replace q4 := (hc2 _ _ hz).trans q4
  replace f4 := (hf2 _ _ hz).trans f4
  obtain ⟨b, c9, rfl, hbb, hbl, h9, hm9⟩ := own_some hown
  have HO := Lib.hid hown
  have zz : w.heap.size + 1 < w1.heap.size := hz
  have zz0 : w.heap.size < w1.heap.size := by omega
  replace hz : w.heap.size + 1 < w2.heap.size := by omega
  replace hz0 : w.heap.size < w2.heap.size := by omega
  clear hc2 hf2 hb2 hown hg1 V A1 A2 HS
  go_upto_region 6 with fail
  obtain ⟨w3, hw3⟩ : ∃ w3, w3 = (((((w2.setCell ⟨w.heap.size, 0, none⟩ (.bool true)).setCell ⟨w.heap.size, 1, none⟩ (.bool r)).setCell ⟨w.heap.size, 2, none⟩ (.int .i64 F)).setCell ⟨w.heap.size, 3, none⟩ (.int .i64 W)).setCell ⟨w.heap.size, 4, none⟩ (.slice (some ⟨b, 0, none⟩) 9 c9)) := ⟨_, rfl⟩
  replace p0 : w3.cell? ⟨w.heap.size, 0, none⟩ = some (.bool true) := by rw [hw3]; go_cell
  replace e0 : w3.frozen? ⟨w.heap.size, 0, none⟩ = false := by rw [hw3]; simp [go_sem, e0]
  replace q0 : w3.cell? ⟨w.heap.size + 1, 0, none⟩ = some (.bool false) := by rw [hw3]; simp [go_sem, q0]
  replace f0 : w3.frozen? ⟨w.heap.size + 1, 0, none⟩ = false := by rw [hw3]; simp [go_sem, f0]
  replace p1 : w3.cell? ⟨w.heap.size, 1, none⟩ = some (.bool r) := by rw [hw3]; go_cell
  replace e1 : w3.frozen? ⟨w.heap.size, 1, none⟩ = false := by rw [hw3]; simp [go_sem, e1]
  replace q1 : w3.cell? ⟨w.heap.size + 1, 1, none⟩ = some (.bool false) := by rw [hw3]; simp [go_sem, q1]
  replace f1 : w3.frozen? ⟨w.heap.size + 1, 1, none⟩ = false := by rw [hw3]; simp [go_sem, f1]
  replace p2 : w3.cell? ⟨w.heap.size, 2, none⟩ = some (.int .i64 F) := by rw [hw3]; go_cell
  replace e2 : w3.frozen? ⟨w.heap.size, 2, none⟩ = false := by rw [hw3]; simp [go_sem, e2]
  replace q2 : w3.cell? ⟨w.heap.size + 1, 2, none⟩ = some (.int .i64 0) := by rw [hw3]; simp [go_sem, q2]
  replace f2 : w3.frozen? ⟨w.heap.size + 1, 2, none⟩ = false := by rw [hw3]; simp [go_sem, f2]
  replace p3 : w3.cell? ⟨w.heap.size, 3, none⟩ = some (.int .i64 W) := by rw [hw3]; go_cell
  replace e3 : w3.frozen? ⟨w.heap.size, 3, none⟩ = false := by rw [hw3]; simp [go_sem, e3]
  replace q3 : w3.cell? ⟨w.heap.size + 1, 3, none⟩ = some (.int .i64 0) := by rw [hw3]; simp [go_sem, q3]
  replace f3 : w3.frozen? ⟨w.heap.size + 1, 3, none⟩ = false := by rw [hw3]; simp [go_sem, f3]
  replace p4 : w3.cell? ⟨w.heap.size, 4, none⟩ = some (.slice (some ⟨b, 0, none⟩) 9 c9) := by rw [hw3]; go_cell
  replace e4 : w3.frozen? ⟨w.heap.size, 4, none⟩ = false := by rw [hw3]; simp [go_sem, e4]
  replace q4 : w3.cell? ⟨w.heap.size + 1, 4, none⟩ = some (.slice none 0 0) := by rw [hw3]; simp [go_sem, q4]
  replace f4 : w3.frozen? ⟨w.heap.size + 1, 4, none⟩ = false := by rw [hw3]; simp [go_sem, f4]
  have hg3 : Below w.heap.size w w3 := by rw [hw3]; go_grown
  have hz' : w.heap.size + 1 < w3.heap.size := by rw [hw3]; simpa using hz
  replace HO : Hid (w3.ownsRow w1.heap.size 52 2 (.slice (some ⟨b, 0, none⟩) 9 c9) 9 (crow f g 9)) := by
    show w3.ownsRow _ _ _ _ _ _
    rw [hw3]
    repeat refine ownsRow_setCell_below ?_ zz0 _
    exact HO.out
  rw [← hw3]
  clear hw3 hg2 hz hz0
  have hz := hz'
  have hz0 : w.heap.size < w3.heap.size := by omega
  clear hz'
  clear ha
  obtain ⟨k1, k2⟩ := hM
  have hd1 : decide ((500 : Int) < mv) = false := by simp; omega
  cases r
  · have hn : Hid (nxR false mv = false) := by show nxR false mv = false; simp [nxR]; try omega
    rcases (by omega : W = 1000 ∨ W < 1000) with rfl | k3
    all_goals
      go_wp2_with fail
      all_goals
        refine (clamp31 _ _ _ _).mono ?_
        rintro x w3 ⟨rfl, rfl⟩
        go_wp2_with fail
        refine bodyPost_ret (v := .tuple #[.agg #[.bool _, .bool _, .int .i64 _, .int .i64 _, .slice (some ⟨b, 0, none⟩) 9 c9], .int .i64 _]) (by simp [results, Try.results13, go_sem, p0, p1, p2, p3, p4, q0, q1, q2, q3, q4, hz, hz0] <;> first | rfl | ((repeat' apply And.intro) <;> rfl)) rfl (.inl ⟨rfl, _, ret_pr ?_ ?_ ?_ ?_, ?_, by go_grown⟩)
        · rw [E1.out]; simp [stepA]
        · rw [E2.out]; simp [stepR, hn.out]
        · rw [E3.out]; simp [stepF, hn.out]
        · rw [E4.out]; simp [stepW, hn.out]; try omega
        refine own_mono (base := w1.heap.size) ?_ (by omega)
        repeat refine ownsRow_setCell_below ?_ (by first | omega | (simp; done) | (simp; omega)) _
        exact HO.out
  · have hn : Hid (nxR true mv = true) := by show nxR true mv = true; simp [nxR]; try omega
    rcases (by omega : W = 1000 ∨ W < 1000) with rfl | k3
    all_goals
      go_wp2_with fail
      all_goals
        refine (clamp31 _ _ _ _).mono ?_
        rintro x w3 ⟨rfl, rfl⟩
        go_wp2_with fail
        refine bodyPost_ret (v := .tuple #[.agg #[.bool _, .bool _, .int .i64 _, .int .i64 _, .slice (some ⟨b, 0, none⟩) 9 c9], .int .i64 _]) (by simp [results, Try.results13, go_sem, p0, p1, p2, p3, p4, q0, q1, q2, q3, q4, hz, hz0] <;> first | rfl | ((repeat' apply And.intro) <;> rfl)) rfl (.inl ⟨rfl, _, ret_pr ?_ ?_ ?_ ?_, ?_, by go_grown⟩)
        · rw [E1.out]; simp [stepA]
        · rw [E2.out]; simp [stepR, hn.out]
        · rw [E3.out]; simp [stepF, hn.out]
        · rw [E4.out]; simp [stepW, hn.out]; try omega
        refine own_mono (base := w1.heap.size) ?_ (by omega)
        repeat refine ownsRow_setCell_below ?_ (by first | omega | (simp; done) | (simp; omega)) _
        exact HO.out
set_option maxHeartbeats 4000000 in
theorem step13_lo (r : Bool) (F W : Int) (A : Option Addr) (n cap : Nat) (f g : Nat → Int) (mv s c : Int) (w : World) (hs : Cls w A n f g) (hl : n ≤ 9223372036854775807) (h : okP true r F W n f g = true) (h2 : (pt s c && inB mv 0 20000) = true) (hM : mv < 400) : Calls Try.prog 13 #[.agg #[.bool true, .bool r, .int .i64 F, .int .i64 W, .slice A n cap], .int .i64 mv, .int .i64 s, .int .i64 c] w (StPost 0 (stepA true mv) (stepR true r mv) (stepF true r F mv) (stepW true r W mv) f g w) := by
  have V := Lib.hid (fun w h => valid16 true r F W A n cap f g w h hl)
  have HS := Lib.hid hs
  clear hs
  rw [h] at V
  obtain ⟨F0, F1, W0, W1, rfl, ha, _⟩ := okP_bd h
  clear h
  simp only [Bool.and_eq_true] at h2
  have A1 := fun w => point28 s c w
  have A2 := fun w => in29 mv 0 20000 w
  rw [h2.1] at A1
  rw [h2.2] at A2
  obtain ⟨m0, m1⟩ := inB_t h2.2
  replace A1 := Lib.hid A1
  replace A2 := Lib.hid A2
  clear h2
  obtain ⟨a', ha'⟩ : ∃ x, x = stepA true mv := ⟨_, rfl⟩
  obtain ⟨r', hr'⟩ : ∃ x, x = stepR true r mv := ⟨_, rfl⟩
  obtain ⟨F', hF'⟩ : ∃ x, x = stepF true r F mv := ⟨_, rfl⟩
  obtain ⟨W', hW'⟩ : ∃ x, x = stepW true r W mv := ⟨_, rfl⟩
  rw [← ha', ← hr', ← hF', ← hW']
  have E1 := Lib.hid ha'
  have E2 := Lib.hid hr'
  have E3 := Lib.hid hF'
  have E4 := Lib.hid hW'
  clear ha' hr' hF' hW'
  go_enter Try.func13, Try.ntmps13
  go_wp2_with fail
  refine (V.out _ (HS.out.below (by go_grown))).mono ?_
  rintro x w1 ⟨rfl, hb1⟩
  have hg1 := chain (w := w) (by go_grown) hb1
  obtain ⟨hc1, hf1⟩ := bcell hb1
  have sz1 := hb1.size
  simp at sz1
  have p0 : w1.cell? ⟨w.heap.size, 0, none⟩ = some (.bool true) := (hc1 _ _ (by first | omega | (simp; done) | (simp; omega))).trans (by go_cell)
  have e0 : w1.frozen? ⟨w.heap.size, 0, none⟩ = false := (hf1 _ _ (by first | omega | (simp; done) | (simp; omega))).trans (by simp [go_sem])
  have p1 : w1.cell? ⟨w.heap.size, 1, none⟩ = some (.bool r) := (hc1 _ _ (by first | omega | (simp; done) | (simp; omega))).trans (by go_cell)
  have e1 : w1.frozen? ⟨w.heap.size, 1, none⟩ = false := (hf1 _ _ (by first | omega | (simp; done) | (simp; omega))).trans (by simp [go_sem])
  have p2 : w1.cell? ⟨w.heap.size, 2, none⟩ = some (.int .i64 F) := (hc1 _ _ (by first | omega | (simp; done) | (simp; omega))).trans (by go_cell)
  have e2 : w1.frozen? ⟨w.heap.size, 2, none⟩ = false := (hf1 _ _ (by first | omega | (simp; done) | (simp; omega))).trans (by simp [go_sem])
  have p3 : w1.cell? ⟨w.heap.size, 3, none⟩ = some (.int .i64 W) := (hc1 _ _ (by first | omega | (simp; done) | (simp; omega))).trans (by go_cell)
  have e3 : w1.frozen? ⟨w.heap.size, 3, none⟩ = false := (hf1 _ _ (by first | omega | (simp; done) | (simp; omega))).trans (by simp [go_sem])
  have p4 : w1.cell? ⟨w.heap.size, 4, none⟩ = some (.slice A 9 cap) := (hc1 _ _ (by first | omega | (simp; done) | (simp; omega))).trans (by go_cell)
  have e4 : w1.frozen? ⟨w.heap.size, 4, none⟩ = false := (hf1 _ _ (by first | omega | (simp; done) | (simp; omega))).trans (by simp [go_sem])
  have q0 : w1.cell? ⟨w.heap.size + 1, 0, none⟩ = some (.bool false) := (hc1 _ _ (by first | omega | (simp; done) | (simp; omega))).trans (by go_cell)
  have f0 : w1.frozen? ⟨w.heap.size + 1, 0, none⟩ = false := (hf1 _ _ (by first | omega | (simp; done) | (simp; omega))).trans (by simp [go_sem])
  have q1 : w1.cell? ⟨w.heap.size + 1, 1, none⟩ = some (.bool false) := (hc1 _ _ (by first | omega | (simp; done) | (simp; omega))).trans (by go_cell)
  have f1 : w1.frozen? ⟨w.heap.size + 1, 1, none⟩ = false := (hf1 _ _ (by first | omega | (simp; done) | (simp; omega))).trans (by simp [go_sem])
  have q2 : w1.cell? ⟨w.heap.size + 1, 2, none⟩ = some (.int .i64 0) := (hc1 _ _ (by first | omega | (simp; done) | (simp; omega))).trans (by go_cell)
  have f2 : w1.frozen? ⟨w.heap.size + 1, 2, none⟩ = false := (hf1 _ _ (by first | omega | (simp; done) | (simp; omega))).trans (by simp [go_sem])
  have q3 : w1.cell? ⟨w.heap.size + 1, 3, none⟩ = some (.int .i64 0) := (hc1 _ _ (by first | omega | (simp; done) | (simp; omega))).trans (by go_cell)
  have f3 : w1.frozen? ⟨w.heap.size + 1, 3, none⟩ = false := (hf1 _ _ (by first | omega | (simp; done) | (simp; omega))).trans (by simp [go_sem])
  have q4 : w1.cell? ⟨w.heap.size + 1, 4, none⟩ = some (.slice none 0 0) := (hc1 _ _ (by first | omega | (simp; done) | (simp; omega))).trans (by go_cell)
  have f4 : w1.frozen? ⟨w.heap.size + 1, 4, none⟩ = false := (hf1 _ _ (by first | omega | (simp; done) | (simp; omega))).trans (by simp [go_sem])
  have hz : w.heap.size + 1 < w1.heap.size := by omega
  have hz0 : w.heap.size < w1.heap.size := by omega
  clear hc1 hf1 hb1
  go_wp2_with fail
  refine (A1.out _).mono ?_
  rintro x w2 ⟨rfl, rfl⟩
  go_wp2_with fail
  refine (A2.out _).mono ?_
  rintro x w2 ⟨rfl, rfl⟩
  go_wp2_with fail
  refine (copied30 true r F W A cap f g _ (HS.out.below hg1)).mono ?_
  rintro x w2 ⟨v, rfl, hown, hb2⟩
  have hg2 := chain hg1 hb2
  obtain ⟨hc2, hf2⟩ := bcell hb2
  have sz2 := hb2.size
  replace p0 := (hc2 _ _ hz0).trans p0
  replace e0 := (hf2 _ _ hz0).trans e0
  replace q0 := (hc2 _ _ hz).trans q0
  replace f0 := (hf2 _ _ hz).trans f0
  replace p1 := (hc2 _ _ hz0).trans p1
  replace e1 := (hf2 _ _ hz0).trans e1
  replace q1 := (hc2 _ _ hz).trans q1
  replace f1 := (hf2 _ _ hz).trans f1
  replace p2 := (hc2 _ _ hz0).trans p2
  replace e2 := (hf2 _ _ hz0).trans e2
  replace q2 := (hc2 _ _ hz).trans q2
  replace f2 := (hf2 _ _ hz).trans f2
  replace p3 := (hc2 _ _ hz0).trans p3
  replace e3 := (hf2 _ _ hz0).trans e3
  replace q3 := (hc2 _ _ hz).trans q3
  replace f3 := (hf2 _ _ hz).trans f3
  replace p4 := (hc2 _ _ hz0).trans p4
  replace e4 := (hf2 _ _ hz0).trans e4
  replace q4 := (hc2 _ _ hz).trans q4
  replace f4 := (hf2 _ _ hz).trans f4
  obtain ⟨b, c9, rfl, hbb, hbl, h9, hm9⟩ := own_some hown
  have HO := Lib.hid hown
  have zz : w.heap.size + 1 < w1.heap.size := hz
  have zz0 : w.heap.size < w1.heap.size := by omega
  replace hz : w.heap.size + 1 < w2.heap.size := by omega
  replace hz0 : w.heap.size < w2.heap.size := by omega
  clear hc2 hf2 hb2 hown hg1 V A1 A2 HS
  go_upto_region 6 with fail
  obtain ⟨w3, hw3⟩ : ∃ w3, w3 = (((((w2.setCell ⟨w.heap.size, 0, none⟩ (.bool true)).setCell ⟨w.heap.size, 1, none⟩ (.bool r)).setCell ⟨w.heap.size, 2, none⟩ (.int .i64 F)).setCell ⟨w.heap.size, 3, none⟩ (.int .i64 W)).setCell ⟨w.heap.size, 4, none⟩ (.slice (some ⟨b, 0, none⟩) 9 c9)) := ⟨_, rfl⟩
  replace p0 : w3.cell? ⟨w.heap.size, 0, none⟩ = some (.bool true) := by rw [hw3]; go_cell
  replace e0 : w3.frozen? ⟨w.heap.size, 0, none⟩ = false := by rw [hw3]; simp [go_sem, e0]
  replace q0 : w3.cell? ⟨w.heap.size + 1, 0, none⟩ = some (.bool false) := by rw [hw3]; simp [go_sem, q0]
  replace f0 : w3.frozen? ⟨w.heap.size + 1, 0, none⟩ = false := by rw [hw3]; simp [go_sem, f0]
  replace p1 : w3.cell? ⟨w.heap.size, 1, none⟩ = some (.bool r) := by rw [hw3]; go_cell
  replace e1 : w3.frozen? ⟨w.heap.size, 1, none⟩ = false := by rw [hw3]; simp [go_sem, e1]
  replace q1 : w3.cell? ⟨w.heap.size + 1, 1, none⟩ = some (.bool false) := by rw [hw3]; simp [go_sem, q1]
  replace f1 : w3.frozen? ⟨w.heap.size + 1, 1, none⟩ = false := by rw [hw3]; simp [go_sem, f1]
  replace p2 : w3.cell? ⟨w.heap.size, 2, none⟩ = some (.int .i64 F) := by rw [hw3]; go_cell
  replace e2 : w3.frozen? ⟨w.heap.size, 2, none⟩ = false := by rw [hw3]; simp [go_sem, e2]
  replace q2 : w3.cell? ⟨w.heap.size + 1, 2, none⟩ = some (.int .i64 0) := by rw [hw3]; simp [go_sem, q2]
  replace f2 : w3.frozen? ⟨w.heap.size + 1, 2, none⟩ = false := by rw [hw3]; simp [go_sem, f2]
  replace p3 : w3.cell? ⟨w.heap.size, 3, none⟩ = some (.int .i64 W) := by rw [hw3]; go_cell
  replace e3 : w3.frozen? ⟨w.heap.size, 3, none⟩ = false := by rw [hw3]; simp [go_sem, e3]
  replace q3 : w3.cell? ⟨w.heap.size + 1, 3, none⟩ = some (.int .i64 0) := by rw [hw3]; simp [go_sem, q3]
  replace f3 : w3.frozen? ⟨w.heap.size + 1, 3, none⟩ = false := by rw [hw3]; simp [go_sem, f3]
  replace p4 : w3.cell? ⟨w.heap.size, 4, none⟩ = some (.slice (some ⟨b, 0, none⟩) 9 c9) := by rw [hw3]; go_cell
  replace e4 : w3.frozen? ⟨w.heap.size, 4, none⟩ = false := by rw [hw3]; simp [go_sem, e4]
  replace q4 : w3.cell? ⟨w.heap.size + 1, 4, none⟩ = some (.slice none 0 0) := by rw [hw3]; simp [go_sem, q4]
  replace f4 : w3.frozen? ⟨w.heap.size + 1, 4, none⟩ = false := by rw [hw3]; simp [go_sem, f4]
  have hg3 : Below w.heap.size w w3 := by rw [hw3]; go_grown
  have hz' : w.heap.size + 1 < w3.heap.size := by rw [hw3]; simpa using hz
  replace HO : Hid (w3.ownsRow w1.heap.size 52 2 (.slice (some ⟨b, 0, none⟩) 9 c9) 9 (crow f g 9)) := by
    show w3.ownsRow _ _ _ _ _ _
    rw [hw3]
    repeat refine ownsRow_setCell_below ?_ zz0 _
    exact HO.out
  rw [← hw3]
  clear hw3 hg2 hz hz0
  have hz := hz'
  have hz0 : w.heap.size < w3.heap.size := by omega
  clear hz'
  clear ha
  obtain k1 := hM
  have hd1 : decide ((500 : Int) < mv) = false := by simp; omega
  have hd2 : decide ((400 : Int) ≤ mv) = false := by simp; omega
  cases r
  · have hn : Hid (nxR false mv = false) := by show nxR false mv = false; simp [nxR]; try omega
    rcases (by omega : W = 1000 ∨ W < 1000) with rfl | k3
    all_goals
      go_wp2_with fail
      all_goals
        refine (clamp31 _ _ _ _).mono ?_
        rintro x w3 ⟨rfl, rfl⟩
        go_wp2_with fail
        refine bodyPost_ret (v := .tuple #[.agg #[.bool _, .bool _, .int .i64 _, .int .i64 _, .slice (some ⟨b, 0, none⟩) 9 c9], .int .i64 _]) (by simp [results, Try.results13, go_sem, p0, p1, p2, p3, p4, q0, q1, q2, q3, q4, hz, hz0] <;> first | rfl | ((repeat' apply And.intro) <;> rfl)) rfl (.inl ⟨rfl, _, ret_pr ?_ ?_ ?_ ?_, ?_, by go_grown⟩)
        · rw [E1.out]; simp [stepA]
        · rw [E2.out]; simp [stepR, hn.out]
        · rw [E3.out]; simp [stepF, hn.out]
        · rw [E4.out]; simp [stepW, hn.out]; try omega
        refine own_mono (base := w1.heap.size) ?_ (by omega)
        repeat refine ownsRow_setCell_below ?_ (by first | omega | (simp; done) | (simp; omega)) _
        exact HO.out
  · have hn : Hid (nxR true mv = false) := by show nxR true mv = false; simp [nxR]; try omega
    go_wp2_with fail
    all_goals
      refine (clamp31 _ _ _ _).mono ?_
      rintro x w3 ⟨rfl, rfl⟩
      go_wp2_with fail
      refine bodyPost_ret (v := .tuple #[.agg #[.bool _, .bool _, .int .i64 _, .int .i64 _, .slice (some ⟨b, 0, none⟩) 9 c9], .int .i64 _]) (by simp [results, Try.results13, go_sem, p0, p1, p2, p3, p4, q0, q1, q2, q3, q4, hz, hz0] <;> first | rfl | ((repeat' apply And.intro) <;> rfl)) rfl (.inl ⟨rfl, _, ret_pr ?_ ?_ ?_ ?_, ?_, by go_grown⟩)
      · rw [E1.out]; simp [stepA]
      · rw [E2.out]; simp [stepR, hn.out]
      · rw [E3.out]; simp [stepF, hn.out]
      · rw [E4.out]; simp [stepW, hn.out]; try omega
      refine own_mono (base := w1.heap.size) ?_ (by omega)
      repeat refine ownsRow_setCell_below ?_ (by first | omega | (simp; done) | (simp; omega)) _
      exact HO.out
theorem step13_ok (a r : Bool) (F W : Int) (A : Option Addr) (n cap : Nat) (f g : Nat → Int) (mv s c : Int) (w : World) (hs : Cls w A n f g) (hl : n ≤ 9223372036854775807) (h : okP a r F W n f g = true) (h2 : (pt s c && inB mv 0 20000) = true) : Calls Try.prog 13 #[.agg #[.bool a, .bool r, .int .i64 F, .int .i64 W, .slice A n cap], .int .i64 mv, .int .i64 s, .int .i64 c] w (StPost 0 (stepA a mv) (stepR a r mv) (stepF a r F mv) (stepW a r W mv) f g w) := by
  cases a
  · exact step13_idle r F W A n cap f g mv s c w hs hl h h2
  · skip
    rcases (by omega : 500 < mv ∨ (400 ≤ mv ∧ mv ≤ 500) ∨ mv < 400) with k | k | k
    · exact step13_hi r F W A n cap f g mv s c w hs hl h h2 k
    · exact step13_mid r F W A n cap f g mv s c w hs hl h h2 k
    · exact step13_lo r F W A n cap f g mv s c w hs hl h h2 k
def stepPost (a r : Bool) (F W : Int) (n : Nat) (f g : Nat → Int) (mv s c : Int) (w : World) (x : Ending) (w' : World) : Prop :=
  StPost (stepE a r F W n f g mv s c) (stepA a mv) (stepR a r mv) (stepF a r F mv) (stepW a r W mv) f g w x w'
theorem StPost.any {e : Int} {a r a' r' : Bool} {F W F' W' : Int} {f g : Nat → Int} {w w' : World} {x : Ending} (he : e ≠ 0) (h : StPost e a r F W f g w x w') : StPost e a' r' F' W' f g w x w' := by
  rcases h with ⟨h, _⟩ | h
  · exact absurd h he
  · exact .inr h
theorem step13 (a r : Bool) (F W : Int) (A : Option Addr) (n cap : Nat) (f g : Nat → Int) (mv s c : Int) (w : World) (hs : Cls w A n f g) (hl : n ≤ 9223372036854775807) : Calls Try.prog 13 #[.agg #[.bool a, .bool r, .int .i64 F, .int .i64 W, .slice A n cap], .int .i64 mv, .int .i64 s, .int .i64 c] w (stepPost a r F W n f g mv s c w) := by
  unfold stepPost stepE
  cases h : okP a r F W n f g
  · exact (step13_arg a r F W A n cap f g mv s c w hs hl h).mono fun x w' k => by simp only [if_neg (show ¬ (false = true) by decide)]; exact k.any (by decide)
  · rw [if_pos rfl]
    cases h2 : (pt s c && inB mv 0 20000)
    · exact (step13_range a r F W A n cap f g mv s c w hs hl h h2).mono fun x w' k => by simp only [if_neg (show ¬ (false = true) by decide)]; exact k.any (by decide)
    · exact step13_ok a r F W A n cap f g mv s c w hs hl h h2
end Go.Proofs.Ytemfjikiopcgpaa
