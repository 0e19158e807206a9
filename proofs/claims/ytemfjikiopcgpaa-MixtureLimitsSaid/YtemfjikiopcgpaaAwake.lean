/-
  States in the variables of a law, a step of a valid state, and the law file's own check of the example. No condition but the slice's shape.
-/
import Derived.Test.YtemfjikiopcgpaaNew
import Derived.Test.YtemfjikiopcgpaaStep
set_option linter.unusedVariables false
set_option linter.unusedSimpArgs false
namespace Go.Proofs.Ytemfjikiopcgpaa
open Go.RowKit
/-- a variable of a law that holds a state: its cells, none frozen -/
def PV (P : Nat) (w : World) (a r : Bool) (F W : Int) (A : Option Addr) (n c : Nat) : Prop :=
  w.cell? ⟨P, 0, none⟩ = some (.bool a) ∧ w.cell? ⟨P, 1, none⟩ = some (.bool r) ∧ w.cell? ⟨P, 2, none⟩ = some (.int .i64 F) ∧ w.cell? ⟨P, 3, none⟩ = some (.int .i64 W) ∧ w.cell? ⟨P, 4, none⟩ = some (.slice A n c) ∧ w.frozen? ⟨P, 0, none⟩ = false ∧ w.frozen? ⟨P, 1, none⟩ = false ∧ w.frozen? ⟨P, 2, none⟩ = false ∧ w.frozen? ⟨P, 3, none⟩ = false ∧ w.frozen? ⟨P, 4, none⟩ = false ∧ P < w.heap.size
theorem PV.below {P : Nat} {w w' : World} {a r : Bool} {F W : Int} {A : Option Addr} {n c : Nat} (h : PV P w a r F W A n c) (hb : Below w.heap.size w w') : PV P w' a r F W A n c := by
  obtain ⟨h0, h1, h2, h3, h4, k0, k1, k2, k3, k4, hl⟩ := h
  obtain ⟨hc, hf⟩ := bcell hb
  have := hb.size
  exact ⟨(hc _ _ hl).trans h0, (hc _ _ hl).trans h1, (hc _ _ hl).trans h2, (hc _ _ hl).trans h3, (hc _ _ hl).trans h4, (hf _ _ hl).trans k0, (hf _ _ hl).trans k1, (hf _ _ hl).trans k2, (hf _ _ hl).trans k3, (hf _ _ hl).trans k4, by omega⟩
theorem PV.store {P : Nat} {w : World} {a r : Bool} {F W : Int} {A : Option Addr} {n c : Nat} (h : PV P w a r F W A n c) (a' r' : Bool) (F' W' : Int) (A' : Option Addr) (n' c' : Nat) :
    PV P (((((w.setCell ⟨P, 0, none⟩ (.bool a')).setCell ⟨P, 1, none⟩ (.bool r')).setCell ⟨P, 2, none⟩ (.int .i64 F')).setCell ⟨P, 3, none⟩ (.int .i64 W')).setCell ⟨P, 4, none⟩ (.slice A' n' c')) a' r' F' W' A' n' c' := by
  obtain ⟨h0, h1, h2, h3, h4, k0, k1, k2, k3, k4, hl⟩ := h
  refine ⟨by go_cell, by go_cell, by go_cell, by go_cell, by go_cell, ?_, ?_, ?_, ?_, ?_, by simpa using hl⟩ <;> simp [go_sem, k0, k1, k2, k3, k4]
theorem PV.new {P : Nat} {w : World} (hP : P = w.heap.size) (a r : Bool) (F W : Int) (A : Option Addr) (n c : Nat) : PV P (w.alloc (.cells #[.bool a, .bool r, .int .i64 F, .int .i64 W, .slice A n c] 24)) a r F W A n c := by
  subst hP
  refine ⟨by go_cell, by go_cell, by go_cell, by go_cell, by go_cell, ?_, ?_, ?_, ?_, ?_, by simp⟩ <;> simp [go_sem]
theorem Cls.store {P b off n : Nat} {w : World} {f g : Nat → Int} (h : Cls w (some ⟨b, off, none⟩) n f g) (hne : b ≠ P) (j : Nat) (u : Value) : Cls (w.setCell ⟨P, j, none⟩ u) (some ⟨b, off, none⟩) n f g := fun h0 => by
  obtain ⟨b', off', e, hb, hc⟩ := h h0
  injection e with e; injection e with e1 e2
  subst e1; subst e2
  refine ⟨b, off, rfl, by simpa using hb, fun i hi => ?_⟩
  obtain ⟨c0, c1⟩ := hc i hi
  exact ⟨(World.cell?_setCell_far _ _ _ _ (fun e => hne e.symm)).trans c0, (World.cell?_setCell_far _ _ _ _ (fun e => hne e.symm)).trans c1⟩
theorem Cls.stores {P b off n : Nat} {w : World} {f g : Nat → Int} (h : Cls w (some ⟨b, off, none⟩) n f g) (hne : b ≠ P) (v0 v1 v2 v3 v4 : Value) : Cls (((((w.setCell ⟨P, 0, none⟩ (v0)).setCell ⟨P, 1, none⟩ (v1)).setCell ⟨P, 2, none⟩ (v2)).setCell ⟨P, 3, none⟩ (v3)).setCell ⟨P, 4, none⟩ (v4)) (some ⟨b, off, none⟩) n f g :=
  ((((h.store hne 0 v0).store hne 1 v1).store hne 2 v2).store hne 3 v3).store hne 4 v4
theorem step_run (a r : Bool) (F W : Int) (A : Option Addr) (cap : Nat) (f g : Nat → Int) (mv s c : Int) (w : World) (a' r' : Bool) (F' W' : Int) (hs : Cls w A 9 f g) (hok : okP a r F W 9 f g = true) (hp : (pt s c && inB mv 0 20000) = true)
    (h1 : a' = stepA a mv) (h2 : r' = stepR a r mv) (h3 : F' = stepF a r F mv) (h4 : W' = stepW a r W mv) :
    Calls Try.prog 13 #[.agg #[.bool a, .bool r, .int .i64 F, .int .i64 W, .slice A 9 cap], .int .i64 mv, .int .i64 s, .int .i64 c] w fun x w' =>
      ∃ b c9, x = .returned (.tuple #[.agg #[.bool a', .bool r', .int .i64 F', .int .i64 W', .slice (some ⟨b, 0, none⟩) 9 c9], .int .i64 0]) ∧ w.heap.size ≤ b ∧ b < w'.heap.size ∧ Cls w' (some ⟨b, 0, none⟩) 9 f g ∧ Below w.heap.size w w' := by
  subst h1 h2 h3 h4
  refine (step13_ok a r F W A 9 cap f g mv s c w hs (by omega) hok hp).mono ?_
  rintro x w' (⟨_, v, rfl, hown, hb⟩ | ⟨h, _⟩)
  · obtain ⟨b, c9, rfl, hbb, hbl, _⟩ := own_some hown
    obtain ⟨A', c', e, _, _, hc⟩ := own_cls hown
    injection e with e1 e2 e3
    subst e1
    exact ⟨b, c9, rfl, hbb, hbl, hc, hb⟩
  · exact absurd rfl h
theorem ok_zero {a : Bool} {F W : Int} (hF : 750 ≤ F ∧ F ≤ 1250) (hW : 0 ≤ W ∧ W ≤ 1000) (h : a = true ∨ (F = 1000 ∧ W = 0)) : okP a false F W 9 (fun _ => 0) (fun _ => 0) = true := by
  have hc : allC (fun _ => 0) (fun _ => 0) 9 = true := by decide
  unfold okP
  rw [inB_mk hF.1 hF.2, inB_mk hW.1 hW.2, hc]
  rcases h with rfl | ⟨rfl, rfl⟩ <;> simp
set_option maxHeartbeats 1000000 in
theorem awake11 (w : World) : Calls Try.prog 11 #[] w fun x w' => x = .returned (.bool true) ∧ Below w.heap.size w w' := by
  go_enter Try.func11, Try.ntmps11
  go_wp2_with fail
  refine (new17 _).mono ?_
  rintro x w1 ⟨b1, rfl, hbb, hbl, hcl, hb1⟩
  have PV0 := Lib.hid (PV.new (w := w1) rfl false false 1000 0 (some ⟨b1, 0, none⟩) 9 9)
  have z1 := hb1.size
  go_wp2_with fail
  go_loopg [7] 4 (fun gk i wr => ∃ (k : Nat) (a : Bool) (F W : Int) (b c : Nat), k ≤ 4 ∧ 4 - k ≤ gk ∧ i = .int .i64 k ∧ Hid ((k = 0 ∧ a = false ∧ F = 1000 ∧ W = 0) ∨ (1 ≤ k ∧ a = true ∧ F = 999 + k ∧ W = k - 1)) ∧
      PV w1.heap.size wr a false F W (some ⟨b, 0, none⟩) 9 c ∧ b ≠ w1.heap.size ∧ Cls wr (some ⟨b, 0, none⟩) 9 (fun _ => 0) (fun _ => 0) ∧ Below w.heap.size w wr ∧ w1.heap.size + 1 < wr.heap.size ∧ (∀ j, j < 4 → wr.cell? ⟨w1.heap.size + 1, j, none⟩ = some (.int .i64 100)))
  case atStart =>
    refine ⟨0, false, 1000, 0, b1, 9, by omega, by omega, rfl, .inl ⟨rfl, rfl, rfl, rfl⟩, PV0.out.below ((Below.refl _ _).alloc (Nat.le_refl _) _), by omega, ?_, by go_grown, by simp, fun j hj => ?_⟩
    · exact (hcl.below ((Below.refl _ _).alloc (Nat.le_refl _) _)).below ((Below.refl _ _).alloc (Nat.le_refl _) _)
    · match j, hj with
      | 0, _ => go_cell
      | 1, _ => go_cell
      | 2, _ => go_cell
      | 3, _ => go_cell
  case round =>
    obtain ⟨k, a, F, W, b, c, hk, hgk, rfl, HS, hP, hne, hc, hbw, hz, hmv⟩ := hrel
    by_cases hlt : k < 4
    · have m0 := hmv k hlt
      have HM := Lib.hid hmv
      obtain ⟨p0, p1, p2, p3, p4, e0, e1, e2, e3, e4, hl⟩ := id hP
      have HP := Lib.hid hP
      have HC := Lib.hid hc
      have hn1 : nxR false 100 = false := by decide
      have ex : ∃ F' W' : Int, F' = stepF a false F 100 ∧ W' = stepW a false W 100 ∧ F' = 999 + ((k + 1 : Nat) : Int) ∧ W' = ((k + 1 : Nat) : Int) - 1 := by
        refine ⟨_, _, rfl, rfl, ?_⟩
        rcases HS.out with ⟨rfl, rfl, rfl, rfl⟩ | ⟨_, rfl, rfl, rfl⟩
        · constructor <;> simp [stepF, stepW]
        · constructor <;> simp [stepF, stepW, hn1, clamp] <;> omega
      obtain ⟨F', W', q1, q2, q3, q4⟩ := ex
      have hok : okP a false F W 9 (fun _ => 0) (fun _ => 0) = true := ok_zero (by rcases HS.out with ⟨_, _, rfl, _⟩ | ⟨_, _, rfl, _⟩ <;> omega) (by rcases HS.out with ⟨_, _, _, rfl⟩ | ⟨_, _, _, rfl⟩ <;> omega) (by
        rcases HS.out with ⟨_, rfl, rfl, rfl⟩ | ⟨_, rfl, _⟩
        · exact .inr ⟨rfl, rfl⟩
        · exact .inl rfl)
      have A := Lib.hid (fun w h => step_run a false F W (some ⟨b, 0, none⟩) c (fun _ => 0) (fun _ => 0) 100 1000 1000 w true false F' W' h hok (by decide) (by cases a <;> decide) (by cases a <;> decide) q1 q2)
      have Q := Lib.hid (And.intro q3 q4)
      clear hmv hP hc hok q1 q2 q3 q4 HS hn1
      go_wp2_with fail
      refine (A.out _ HC.out).mono ?_
      rintro x w2 ⟨b2, c2, rfl, hb2b, hb2l, hc2, hb2⟩
      have P2 := HP.out.below hb2
      obtain ⟨p0, p1, p2, p3, p4, e0, e1, e2, e3, e4, hl2⟩ := id P2
      have P3 := Lib.hid (P2.store true false F' W' (some ⟨b2, 0, none⟩) 9 c2)
      have C3 := Lib.hid (hc2.stores (P := w1.heap.size) (by omega) (.bool true) (.bool false) (.int .i64 F') (.int .i64 W') (.slice (some ⟨b2, 0, none⟩) 9 c2))
      have M3 := Lib.hid (fun j hj => ((bcell hb2).1 (w1.heap.size + 1) j hz).trans (HM.out j hj))
      have hbw2 := hbw.trans (hb2.mono (by omega))
      have sz2 := hb2.size
      clear hb2 hc2 P2 HP HC HM A
      go_wp2_with fail
      go_roundg (4 - (k + 1))
      case measure => omega
      case rel =>
        refine ⟨k + 1, true, F', W', b2, c2, by omega, by omega, by go_num, .inr ⟨by omega, rfl, Q.out.1, Q.out.2⟩, P3.out, by omega, C3.out, by go_grown, by simp; omega, fun j hj => ?_⟩
        have := M3.out j hj
        simp [go_sem, this]
    · obtain rfl : k = 4 := by omega
      obtain ⟨rfl, rfl, rfl⟩ : a = true ∧ F = 1003 ∧ W = 3 := by
        rcases HS.out with ⟨h, _⟩ | ⟨_, h1, h2, h3⟩
        · omega
        · exact ⟨h1, by omega, by omega⟩
      obtain ⟨p0, p1, p2, p3, p4, e0, e1, e2, e3, e4, hl⟩ := id hP
      have HP := Lib.hid hP
      have HC := Lib.hid hc
      have A := Lib.hid (fun w h => step_run true false 1003 3 (some ⟨b, 0, none⟩) c (fun _ => 0) (fun _ => 0) 800 1000 1000 w true true 988 0 h (ok_zero (by omega) (by omega) (.inl rfl)) (by decide) (by decide) (by decide) (by decide) (by decide))
      clear hmv hP hc HS
      go_wp2_with fail
      refine (A.out _ HC.out).mono ?_
      rintro x w2 ⟨b2, c2, rfl, hb2b, hb2l, hc2, hb2⟩
      have P2 := HP.out.below hb2
      obtain ⟨p0, p1, p2, p3, p4, e0, e1, e2, e3, e4, hl2⟩ := id P2
      have hbw2 := hbw.trans (hb2.mono (by omega))
      clear hb2 hc2 P2 HP HC A
      go_wp2_with fail
      go_ret
      exact ⟨rfl, by go_grown⟩
end Go.Proofs.Ytemfjikiopcgpaa
