/-
  The core of the law ReadinessSteps. No condition.
-/
import Derived.Test.YtomnhbbgndopnaaRatio
import Derived.Deep.RegionHeld3
set_option linter.unusedVariables false
namespace Go.Proofs.Ytomnhbbgndopnaa
open Go.RowKit
def RV (P : Nat) (w : World) (D R : Bool) (N M : Int) : Prop := w.cell? ⟨P, 0, none⟩ = some (.bool D) ∧ w.cell? ⟨P, 1, none⟩ = some (.bool R) ∧ w.cell? ⟨P, 2, none⟩ = some (.int .i64 N) ∧ w.cell? ⟨P, 3, none⟩ = some (.int .i64 M) ∧ P < w.heap.size
theorem RV.below {P : Nat} {w w' : World} {D R : Bool} {N M : Int} (h : RV P w D R N M) (hb : Below w.heap.size w w') : RV P w' D R N M := by
  obtain ⟨h0, h1, h2, h3, hl⟩ := h
  obtain ⟨hc, _⟩ := bcell hb
  have := hb.size
  exact ⟨(hc _ _ hl).trans h0, (hc _ _ hl).trans h1, (hc _ _ hl).trans h2, (hc _ _ hl).trans h3, by omega⟩
theorem RV.new (w : World) (D R : Bool) (N M : Int) : RV w.heap.size (w.alloc (.cells #[.bool D, .bool R, .int .i64 N, .int .i64 M] 26)) D R N M := ⟨by go_cell, by go_cell, by go_cell, by go_cell, by simp⟩
def QV (P : Nat) (w : World) (X Y : Int) : Prop := w.cell? ⟨P, 0, none⟩ = some (.int .i64 X) ∧ w.cell? ⟨P, 1, none⟩ = some (.int .i64 Y) ∧ P < w.heap.size
theorem QV.below {P : Nat} {w w' : World} {X Y : Int} (h : QV P w X Y) (hb : Below w.heap.size w w') : QV P w' X Y := by
  obtain ⟨h0, h1, hl⟩ := h
  obtain ⟨hc, _⟩ := bcell hb
  have := hb.size
  exact ⟨(hc _ _ hl).trans h0, (hc _ _ hl).trans h1, by omega⟩
theorem QV.new (w : World) (X Y : Int) : QV w.heap.size (w.alloc (.cells #[.int .i64 X, .int .i64 Y] 45)) X Y := ⟨by go_cell, by go_cell, by simp⟩
def Kp (w8 W : World) : Prop := (∀ b o, b < w8.heap.size → W.cell? ⟨b, o, none⟩ = w8.cell? ⟨b, o, none⟩) ∧ Below w8.heap.size w8 W
theorem Kp.mk {w8 W : World} (h : Below w8.heap.size w8 W) : (∀ b o, b < w8.heap.size → W.cell? ⟨b, o, none⟩ = w8.cell? ⟨b, o, none⟩) ∧ Below w8.heap.size w8 W := ⟨fun b o hb => h.cell (p := ⟨b, o, none⟩) hb, h⟩
theorem Kp.next {w8 W W2 : World} (h : (∀ b o, b < w8.heap.size → W.cell? ⟨b, o, none⟩ = w8.cell? ⟨b, o, none⟩) ∧ Below w8.heap.size w8 W) (hb : Below W.heap.size W W2) :
    (∀ b o, b < w8.heap.size → W2.cell? ⟨b, o, none⟩ = w8.cell? ⟨b, o, none⟩) ∧ Below w8.heap.size w8 W2 := Kp.mk (h.2.trans (hb.mono h.2.size))
theorem step_ex (D R began ran : Bool) (N M : Int) : ∃ (D' R' : Bool) (N' M' e : Int),
    ((vld D R N M = false ∧ D' = false ∧ R' = false ∧ N' = 0 ∧ M' = 0 ∧ e = 1) ∨ (vld D R N M = true ∧ ran = true ∧ began = false ∧ D' = false ∧ R' = false ∧ N' = 0 ∧ M' = 0 ∧ e = 6) ∨
      (vld D R N M = true ∧ ran = false ∧ D' = D ∧ R' = R ∧ N' = N ∧ M' = M ∧ e = 0) ∨ (vld D R N M = true ∧ ran = true ∧ began = true ∧ R = true ∧ D' = true ∧ R' = true ∧ N' = N ∧ M' = M ∧ e = 0) ∨
      (vld D R N M = true ∧ ran = true ∧ began = true ∧ R = false ∧ D' = true ∧ R' = true ∧ N' = cntN N M ∧ M' = cntM N M ∧ e = 0)) ∧ (e ≠ 0 ∨ (e = 0 ∧ vld D' R' N' M' = true)) := by
  cases hv : vld D R N M
  · exact ⟨false, false, 0, 0, 1, .inl ⟨rfl, rfl, rfl, rfl, rfl, rfl⟩, .inl (by decide)⟩
  · obtain ⟨n0, n1, m0, m1⟩ := vld_bd hv
    cases ran
    · exact ⟨D, R, N, M, 0, .inr (.inr (.inl ⟨rfl, rfl, rfl, rfl, rfl, rfl, rfl⟩)), .inr ⟨rfl, hv⟩⟩
    · cases began
      · exact ⟨false, false, 0, 0, 6, .inr (.inl ⟨rfl, rfl, rfl, rfl, rfl, rfl, rfl, rfl⟩), .inl (by decide)⟩
      · cases R
        · refine ⟨true, true, _, _, 0, .inr (.inr (.inr (.inr ⟨rfl, rfl, rfl, rfl, rfl, rfl, rfl, rfl, rfl⟩))), .inr ⟨rfl, ?_⟩⟩
          unfold cntN cntM
          simp only [vld, Bool.and_eq_true, decide_eq_true_eq]
          refine ⟨?_, rfl⟩
          split <;> omega
        · refine ⟨true, true, N, M, 0, .inr (.inr (.inr (.inl ⟨rfl, rfl, rfl, rfl, rfl, rfl, rfl, rfl, rfl⟩))), .inr ⟨rfl, ?_⟩⟩
          simp only [vld, Bool.and_eq_true, decide_eq_true_eq]
          exact ⟨⟨n0, n1, m0, m1⟩, rfl⟩
theorem cyc_ex (D R general : Bool) (N M : Int) : ∃ (D' R' : Bool) (N' M' e : Int),
    ((vld D R N M = false ∧ D' = false ∧ R' = false ∧ N' = 0 ∧ M' = 0 ∧ e = 1) ∨ (vld D R N M = true ∧ general = false ∧ D' = D ∧ R' = false ∧ N' = N ∧ M' = M ∧ e = 0) ∨
      (vld D R N M = true ∧ general = true ∧ D' = D ∧ R' = false ∧ N' = cycN N M ∧ M' = cycM N M ∧ e = 0)) ∧ (e ≠ 0 ∨ (e = 0 ∧ vld D' R' N' M' = true)) := by
  cases hv : vld D R N M
  · exact ⟨false, false, 0, 0, 1, .inl ⟨rfl, rfl, rfl, rfl, rfl, rfl⟩, .inl (by decide)⟩
  · obtain ⟨n0, n1, m0, m1⟩ := vld_bd hv
    cases general
    · refine ⟨D, false, N, M, 0, .inr (.inl ⟨rfl, rfl, rfl, rfl, rfl, rfl, rfl⟩), .inr ⟨rfl, ?_⟩⟩
      simp only [vld, Bool.and_eq_true, decide_eq_true_eq]
      exact ⟨⟨n0, n1, m0, m1⟩, by simp⟩
    · refine ⟨D, false, _, _, 0, .inr (.inr ⟨rfl, rfl, rfl, rfl, rfl, rfl, rfl⟩), .inr ⟨rfl, ?_⟩⟩
      unfold cycN cycM
      simp only [vld, Bool.and_eq_true, decide_eq_true_eq]
      refine ⟨?_, by simp⟩
      split <;> omega
set_option maxRecDepth 100000 in
set_option maxHeartbeats 4000000 in
theorem steps6 (D R began ran general : Bool) (N M : Int) (w : World) :
    Calls Try.prog 6 #[.agg #[.bool D, .bool R, .int .i64 N, .int .i64 M], .bool began, .bool ran, .bool general] w fun r w' => r = .returned (.bool true) ∧ Below w.heap.size w w' := by
  obtain ⟨D1, R1, N1, M1, e1, hs, he1⟩ := step_ex D R began ran N M
  obtain ⟨D2, R2, N2, M2, e2, hc, he2⟩ := cyc_ex D R general N M
  have S8 := Lib.hid (fun w => step8 D R began ran N M w D1 R1 N1 M1 e1 hs)
  have S16 := Lib.hid (fun w => step16 D R began ran N M w D1 R1 N1 M1 e1 hs)
  have C9 := Lib.hid (fun w => cycle9 D R general N M w D2 R2 N2 M2 e2 hc)
  have C17 := Lib.hid (fun w => cycle17 D R general N M w D2 R2 N2 M2 e2 hc)
  have T18 := fun w => ratio18 D R N M w
  have T19 := fun w => ratio19 D R N M w
  generalize rtX D R N M = X at T18 T19
  generalize rtY D R N M = Y at T18 T19
  generalize rtE D R N M = E at T18 T19
  replace T18 := Lib.hid T18
  replace T19 := Lib.hid T19
  have V1 := fun w => valid20 D R N M w
  have V2 := fun w => valid10 D R N M w
  have V3 := fun w => valid20 D1 R1 N1 M1 w
  have V4 := fun w => valid20 D2 R2 N2 M2 w
  generalize vld D R N M = v0 at V1 V2
  generalize vld D1 R1 N1 M1 = v1 at V3 he1
  generalize vld D2 R2 N2 M2 = v2 at V4 he2
  replace V1 := Lib.hid V1
  replace V2 := Lib.hid V2
  replace V3 := Lib.hid V3
  replace V4 := Lib.hid V4
  have H1 := Lib.hid he1
  have H2 := Lib.hid he2
  clear hs hc he1 he2
  go_enter Try.func6, Try.ntmps6
  go_wp2_with fail
  refine (awake7 _).mono ?_
  rintro r w1 ⟨rfl, hb⟩
  have hg := chain (w := w) (by go_grown) hb
  have A := (RV.new w D R N M).below hb
  obtain ⟨p0, p1, p2, p3, hl⟩ := id A
  have HA := Lib.hid A
  clear hb A
  go_wp2_with fail
  refine (S8.out _).mono ?_
  rintro r w2 ⟨rfl, hb⟩
  replace hg := chain (w := w) (hg) hb
  have A := HA.out.below hb
  clear hb p0 p1 p2 p3 hl HA S8
  obtain ⟨p0, p1, p2, p3, hl⟩ := id A
  have HA := Lib.hid A
  clear A
  have B1 := Lib.hid (RV.new w2 D1 R1 N1 M1)
  go_wp2_with fail
  refine (S16.out _).mono ?_
  rintro r w3 ⟨rfl, hb⟩
  replace hg := chain (w := w) (by go_grown) hb
  have A := (HA.out.below ((Below.refl _ _).alloc (Nat.le_refl _) _)).below hb
  replace B1 := Lib.hid (B1.out.below hb)
  clear hb p0 p1 p2 p3 hl HA S16
  obtain ⟨p0, p1, p2, p3, hl⟩ := id A
  have HA := Lib.hid A
  clear A
  have B2 := Lib.hid (RV.new w3 D1 R1 N1 M1)
  go_wp2_with fail
  refine (C9.out _).mono ?_
  rintro r w4 ⟨rfl, hb⟩
  replace hg := chain (w := w) (by go_grown) hb
  have A := (HA.out.below ((Below.refl _ _).alloc (Nat.le_refl _) _)).below hb
  replace B1 := Lib.hid ((B1.out.below ((Below.refl _ _).alloc (Nat.le_refl _) _)).below hb)
  replace B2 := Lib.hid (B2.out.below hb)
  clear hb p0 p1 p2 p3 hl HA C9
  obtain ⟨p0, p1, p2, p3, hl⟩ := id A
  have HA := Lib.hid A
  clear A
  have B3 := Lib.hid (RV.new w4 D2 R2 N2 M2)
  go_wp2_with fail
  refine (C17.out _).mono ?_
  rintro r w5 ⟨rfl, hb⟩
  replace hg := chain (w := w) (by go_grown) hb
  have A := (HA.out.below ((Below.refl _ _).alloc (Nat.le_refl _) _)).below hb
  replace B1 := Lib.hid ((B1.out.below ((Below.refl _ _).alloc (Nat.le_refl _) _)).below hb)
  replace B2 := Lib.hid ((B2.out.below ((Below.refl _ _).alloc (Nat.le_refl _) _)).below hb)
  replace B3 := Lib.hid (B3.out.below hb)
  clear hb p0 p1 p2 p3 hl HA C17
  obtain ⟨p0, p1, p2, p3, hl⟩ := id A
  have HA := Lib.hid A
  clear A
  have B4 := Lib.hid (RV.new w5 D2 R2 N2 M2)
  go_wp2_with fail
  refine (T18.out _).mono ?_
  rintro r w6 ⟨rfl, hb⟩
  replace hg := chain (w := w) (by go_grown) hb
  have A := (HA.out.below ((Below.refl _ _).alloc (Nat.le_refl _) _)).below hb
  replace B1 := Lib.hid ((B1.out.below ((Below.refl _ _).alloc (Nat.le_refl _) _)).below hb)
  replace B2 := Lib.hid ((B2.out.below ((Below.refl _ _).alloc (Nat.le_refl _) _)).below hb)
  replace B3 := Lib.hid ((B3.out.below ((Below.refl _ _).alloc (Nat.le_refl _) _)).below hb)
  replace B4 := Lib.hid (B4.out.below hb)
  clear hb p0 p1 p2 p3 hl HA T18
  obtain ⟨p0, p1, p2, p3, hl⟩ := id A
  have HA := Lib.hid A
  clear A
  have B5 := Lib.hid (QV.new w6 X Y)
  go_wp2_with fail
  refine (T19.out _).mono ?_
  rintro r w7 ⟨rfl, hb⟩
  replace hg := chain (w := w) (by go_grown) hb
  have A := (HA.out.below ((Below.refl _ _).alloc (Nat.le_refl _) _)).below hb
  replace B1 := Lib.hid ((B1.out.below ((Below.refl _ _).alloc (Nat.le_refl _) _)).below hb)
  replace B2 := Lib.hid ((B2.out.below ((Below.refl _ _).alloc (Nat.le_refl _) _)).below hb)
  replace B3 := Lib.hid ((B3.out.below ((Below.refl _ _).alloc (Nat.le_refl _) _)).below hb)
  replace B4 := Lib.hid ((B4.out.below ((Below.refl _ _).alloc (Nat.le_refl _) _)).below hb)
  replace B5 := Lib.hid (B5.out.below hb)
  clear hb p0 p1 p2 p3 hl HA T19
  obtain ⟨p0, p1, p2, p3, hl⟩ := id A
  have HA := Lib.hid A
  clear A
  have B6 := Lib.hid (QV.new w7 X Y)
  go_wp2_with fail
  obtain ⟨w8, hw8⟩ : ∃ w8, w8 = w7.alloc (.cells #[.int .i64 X, .int .i64 Y] 45) := ⟨_, rfl⟩
  have bl : Below w7.heap.size w7 (w7.alloc (.cells #[.int .i64 X, .int .i64 Y] 45)) := (Below.refl _ _).alloc (Nat.le_refl _) _
  have hg8 := chain hg bl
  have A := HA.out.below bl
  have b1 := B1.out.below bl
  have b2 := B2.out.below bl
  have b3 := B3.out.below bl
  have b4 := B4.out.below bl
  have b5 := B5.out.below bl
  have b6 := B6.out
  rw [← hw8] at A b1 b2 b3 b4 b5 b6 hg8 ⊢
  clear hw8 bl HA B1 B2 B3 B4 B5 B6 p0 p1 p2 p3 hl hg
  obtain ⟨p0, p1, p2, p3, hl⟩ := id A
  obtain ⟨x10, x11, x12, x13, l1⟩ := id b1
  obtain ⟨x20, x21, x22, x23, l2⟩ := id b2
  obtain ⟨x30, x31, x32, x33, l3⟩ := id b3
  obtain ⟨x40, x41, x42, x43, l4⟩ := id b4
  obtain ⟨x50, x51, l5⟩ := id b5
  obtain ⟨x60, x61, l6⟩ := id b6
  have HA := Lib.hid A
  have B1 := Lib.hid b1
  have B3 := Lib.hid b3
  clear A b1 b2 b3 b4 b5 b6
  go_region_held3 (fun W => (∀ b o, b < w8.heap.size → W.cell? ⟨b, o, none⟩ = w8.cell? ⟨b, o, none⟩) ∧ Below w8.heap.size w8 W)
    (first | exact Kp.mk (Below.refl _ _).drew | (refine Kp.next ?_ hb10; assumption) | (refine Kp.next ?_ hb9; assumption))
    (first | (go_at_call 20; refine (V1.out _).mono ?_; rintro r w9 ⟨rfl, hb9⟩) | (go_at_call 10; refine (V2.out _).mono ?_; rintro r w10 ⟨rfl, hb10⟩))
  rename_i hh
  have hg := chain hg8 hh.2
  have C1 := B1.out.below hh.2
  have C3' := B3.out.below hh.2
  have C3 := Lib.hid C3'
  clear hh hb9 hb10 HA B1 B3 p0 p1 p2 p3 hl hg8 V1 V2
  clear x10 x11 x12 x13 l1
  clear x20 x21 x22 x23 l2
  clear x30 x31 x32 x33 l3
  clear x40 x41 x42 x43 l4
  clear x50 x51 l5
  clear x60 x61 l6
  obtain ⟨x0, x1, x2, x3, k0⟩ := id C1
  obtain ⟨y0, y1, y2, y3, k1⟩ := id C3'
  clear C1 C3'
  rcases H1.out with h1 | ⟨rfl, rfl⟩
  · have h1' : (e1 != 0) = true := by simp [h1]
    rcases H2.out with h2 | ⟨rfl, rfl⟩
    · have h2' : (e2 != 0) = true := by simp [h2]
      clear H1 H2
      go_wp2
      go_ret
      exact ⟨rfl, hg⟩
    · clear H1 H2
      go_wp2_with fail
      refine (V4.out _).mono ?_
      rintro r w12 ⟨rfl, hb12⟩
      replace hg := chain (w := w) hg hb12
      go_wp2
      go_ret
      exact ⟨rfl, hg⟩
  · rcases H2.out with h2 | ⟨rfl, rfl⟩
    · have h2' : (e2 != 0) = true := by simp [h2]
      clear H1 H2
      go_wp2_with fail
      refine (V3.out _).mono ?_
      rintro r w11 ⟨rfl, hb11⟩
      replace hg := chain (w := w) hg hb11
      obtain ⟨y0, y1, y2, y3, k1⟩ := ((C3.out).below hb11)
      go_wp2
      go_ret
      exact ⟨rfl, hg⟩
    · clear H1 H2
      go_wp2_with fail
      refine (V3.out _).mono ?_
      rintro r w11 ⟨rfl, hb11⟩
      replace hg := chain (w := w) hg hb11
      obtain ⟨y0, y1, y2, y3, k1⟩ := ((C3.out).below hb11)
      go_wp2_with fail
      refine (V4.out _).mono ?_
      rintro r w12 ⟨rfl, hb12⟩
      replace hg := chain (w := w) hg hb12
      go_wp2
      go_ret
      exact ⟨rfl, hg⟩
end Go.Proofs.Ytomnhbbgndopnaa
