/-
  The contracts of Learn and of its reference. No condition but the slice's shape.
-/
import Derived.Test.YtemfjikiopcgpaaOpens
import Derived.IntWalk
set_option linter.unusedVariables false
set_option linter.unusedSimpArgs false
namespace Go.Proofs.Ytemfjikiopcgpaa
open Go.RowKit
/-- what is learned, and the state after learning -/
def lrV (F v : Int) : Int := clamp (v + (F - 1000).tdiv 8) (-100) 100
def lrF (F : Int) (f : Nat → Int) (k : Nat) : Int := F - (lrV F (f k) - f k)
def lrf (F : Int) (f : Nat → Int) (k : Nat) : Nat → Int := fun i => if i = k then lrV F (f k) else f i
def lrg (g : Nat → Int) (k : Nat) : Nat → Int := fun i => if i = k then min 1000 (g k + 1) else g i
/-- what learning leaves: a state of the call's own, or nothing and an error -/
def LrPost (e : Int) (r : Bool) (F W : Int) (f g : Nat → Int) (w : World) (x : Ending) (w' : World) : Prop :=
  (e = 0 ∧ ∃ b c, x = .returned (.tuple #[.agg #[.bool true, .bool r, .int .i64 F, .int .i64 W, .slice (some ⟨b, 0, none⟩) 9 c], .int .i64 0]) ∧ w.heap.size ≤ b ∧ b < w'.heap.size ∧ Cls w' (some ⟨b, 0, none⟩) 9 f g ∧ Below w.heap.size w w') ∨
  (e ≠ 0 ∧ x = .returned (.tuple #[.agg #[.bool false, .bool false, .int .i64 0, .int .i64 0, .slice none 0 0], .int .i64 e]) ∧ Below w.heap.size w w')
theorem tq_bd {F : Int} (h0 : 750 ≤ F) (h1 : F ≤ 1250) : -32 ≤ (F - 1000).tdiv 8 ∧ (F - 1000).tdiv 8 ≤ 32 := by
  by_cases h : 0 ≤ F - 1000
  · rw [Int.tdiv_eq_ediv_of_nonneg h]; omega
  · have e : F - 1000 = -(1000 - F) := by omega
    rw [e, Int.neg_tdiv, Int.tdiv_eq_ediv_of_nonneg (by omega)]; omega
theorem own_fz {w : World} {B b c : Nat} {f g : Nat → Int} (h : Own w B (.slice (some ⟨b, 0, none⟩) 9 c) 9 f g) : Fz w b 18 := by
  rcases h.2 with ⟨h, _⟩ | ⟨g', cap, cur, hv, _, hh, _⟩
  · cases h
  · injection hv with hv
    injection hv with hv
    injection hv with hv
    subst hv
    intro j _
    simp only [World.frozen?, hh]
    simp
theorem PV.fars {P : Nat} {w : World} {a r : Bool} {F W : Int} {A : Option Addr} {n c b : Nat} (h : PV P w a r F W A n c) (hne : b ≠ P) (v0 v1 v2 v3 v4 : Value) :
    PV P (((((w.setCell ⟨b, 0, none⟩ v0).setCell ⟨b, 1, none⟩ v1).setCell ⟨b, 2, none⟩ v2).setCell ⟨b, 3, none⟩ v3).setCell ⟨b, 4, none⟩ v4) a r F W A n c :=
  ((((h.far hne 0 v0).far hne 1 v1).far hne 2 v2).far hne 3 v3).far hne 4 v4
def lrE (a r : Bool) (F W : Int) (n : Nat) (f g : Nat → Int) (k : Int) : Int := if okP a r F W n f g then (if inB k 0 8 then (if a then 0 else 6) else 2) else 1
set_option maxHeartbeats 1000000 in
theorem learn22_arg (a r : Bool) (F W : Int) (A : Option Addr) (n cap : Nat) (f g : Nat → Int) (k : Int) (w : World) (hs : Cls w A n f g) (hl : n ≤ 9223372036854775807) (h : okP a r F W n f g = false) :
    Calls Try.prog 22 #[.agg #[.bool a, .bool r, .int .i64 F, .int .i64 W, .slice A n cap], .int .i64 k] w (LrPost 1 false 0 0 (fun _ => 0) (fun _ => 0) w) := by
  have V := fun w h => valid16 a r F W A n cap f g w h hl
  have HS := Lib.hid hs
  clear hs
  rw [h] at V
  replace V := Lib.hid V
  clear h
  go_enter Try.func22, Try.ntmps22
  go_wp2_with fail
  refine (V.out _ (HS.out.below (by go_grown))).mono ?_
  rintro x w1 ⟨rfl, hb1⟩
  have hg1 := chain (w := w) (by go_grown) hb1
  have P1 := ((PV.new (w := w) rfl _ _ _ _ _ _ _).below ((Below.refl _ _).alloc (Nat.le_refl _) _)).below hb1
  have Q1 := (PV.new (P := w.heap.size + 1) (by simp) _ _ _ _ _ _ _).below hb1
  clear hb1
  obtain ⟨p0, p1, p2, p3, p4, e0, e1, e2, e3, e4, hz0⟩ := id P1
  obtain ⟨q0, q1, q2, q3, q4, f0, f1, f2, f3, f4, hz⟩ := id Q1
  have HP := Lib.hid P1
  have HQ := Lib.hid Q1
  clear P1 Q1
  go_wp2_with fail
  refine bodyPost_ret (v := .tuple #[.agg #[.bool false, .bool false, .int .i64 0, .int .i64 0, .slice none 0 0], .int .i64 1]) (by simp [results, Try.results22, go_sem, p0, p1, p2, p3, p4, q0, q1, q2, q3, q4, hz, hz0] <;> first | rfl | ((repeat' apply And.intro) <;> rfl)) rfl (.inr ⟨by decide, rfl, by go_grown⟩)
set_option maxHeartbeats 1000000 in
theorem learn22_range (a r : Bool) (F W : Int) (A : Option Addr) (n cap : Nat) (f g : Nat → Int) (k : Int) (w : World) (hs : Cls w A n f g) (hl : n ≤ 9223372036854775807) (h : okP a r F W n f g = true) (h2 : inB k 0 8 = false) :
    Calls Try.prog 22 #[.agg #[.bool a, .bool r, .int .i64 F, .int .i64 W, .slice A n cap], .int .i64 k] w (LrPost 2 false 0 0 (fun _ => 0) (fun _ => 0) w) := by
  have V := fun w h => valid16 a r F W A n cap f g w h hl
  have HS := Lib.hid hs
  clear hs
  rw [h] at V
  replace V := Lib.hid V
  clear h
  have N := fun w => in29 k 0 8 w
  rw [h2] at N
  replace N := Lib.hid N
  clear h2
  go_enter Try.func22, Try.ntmps22
  go_wp2_with fail
  refine (V.out _ (HS.out.below (by go_grown))).mono ?_
  rintro x w1 ⟨rfl, hb1⟩
  have hg1 := chain (w := w) (by go_grown) hb1
  have P1 := ((PV.new (w := w) rfl _ _ _ _ _ _ _).below ((Below.refl _ _).alloc (Nat.le_refl _) _)).below hb1
  have Q1 := (PV.new (P := w.heap.size + 1) (by simp) _ _ _ _ _ _ _).below hb1
  clear hb1
  obtain ⟨p0, p1, p2, p3, p4, e0, e1, e2, e3, e4, hz0⟩ := id P1
  obtain ⟨q0, q1, q2, q3, q4, f0, f1, f2, f3, f4, hz⟩ := id Q1
  have HP := Lib.hid P1
  have HQ := Lib.hid Q1
  clear P1 Q1
  go_wp2_with fail
  refine (N.out _).mono ?_
  rintro x w2 ⟨rfl, rfl⟩
  go_wp2_with fail
  refine bodyPost_ret (v := .tuple #[.agg #[.bool false, .bool false, .int .i64 0, .int .i64 0, .slice none 0 0], .int .i64 2]) (by simp [results, Try.results22, go_sem, p0, p1, p2, p3, p4, q0, q1, q2, q3, q4, hz, hz0] <;> first | rfl | ((repeat' apply And.intro) <;> rfl)) rfl (.inr ⟨by decide, rfl, by go_grown⟩)
set_option maxHeartbeats 1000000 in
theorem learn22_state (r : Bool) (F W : Int) (A : Option Addr) (n cap : Nat) (f g : Nat → Int) (k : Int) (w : World) (hs : Cls w A n f g) (hl : n ≤ 9223372036854775807) (h : okP false r F W n f g = true) (h2 : inB k 0 8 = true) :
    Calls Try.prog 22 #[.agg #[.bool false, .bool r, .int .i64 F, .int .i64 W, .slice A n cap], .int .i64 k] w (LrPost 6 false 0 0 (fun _ => 0) (fun _ => 0) w) := by
  have V := fun w h => valid16 false r F W A n cap f g w h hl
  have HS := Lib.hid hs
  clear hs
  rw [h] at V
  replace V := Lib.hid V
  clear h
  have N := fun w => in29 k 0 8 w
  rw [h2] at N
  replace N := Lib.hid N
  clear h2
  go_enter Try.func22, Try.ntmps22
  go_wp2_with fail
  refine (V.out _ (HS.out.below (by go_grown))).mono ?_
  rintro x w1 ⟨rfl, hb1⟩
  have hg1 := chain (w := w) (by go_grown) hb1
  have P1 := ((PV.new (w := w) rfl _ _ _ _ _ _ _).below ((Below.refl _ _).alloc (Nat.le_refl _) _)).below hb1
  have Q1 := (PV.new (P := w.heap.size + 1) (by simp) _ _ _ _ _ _ _).below hb1
  clear hb1
  obtain ⟨p0, p1, p2, p3, p4, e0, e1, e2, e3, e4, hz0⟩ := id P1
  obtain ⟨q0, q1, q2, q3, q4, f0, f1, f2, f3, f4, hz⟩ := id Q1
  have HP := Lib.hid P1
  have HQ := Lib.hid Q1
  clear P1 Q1
  go_wp2_with fail
  refine (N.out _).mono ?_
  rintro x w2 ⟨rfl, rfl⟩
  go_wp2_with fail
  refine bodyPost_ret (v := .tuple #[.agg #[.bool false, .bool false, .int .i64 0, .int .i64 0, .slice none 0 0], .int .i64 6]) (by simp [results, Try.results22, go_sem, p0, p1, p2, p3, p4, q0, q1, q2, q3, q4, hz, hz0] <;> first | rfl | ((repeat' apply And.intro) <;> rfl)) rfl (.inr ⟨by decide, rfl, by go_grown⟩)
set_option maxRecDepth 100000 in
set_option maxHeartbeats 4000000 in
theorem learn22_ok (r : Bool) (F W : Int) (A : Option Addr) (cap : Nat) (f g : Nat → Int) (k : Nat) (w : World) (hs : Cls w A 9 f g) (h : okP true r F W 9 f g = true) (hk : k < 9) :
    Calls Try.prog 22 #[.agg #[.bool true, .bool r, .int .i64 F, .int .i64 W, .slice A 9 cap], .int .i64 k] w (LrPost 0 r (lrF F f k) W (lrf F f k) (lrg g k) w) := by
  obtain ⟨F0, F1, _, _, _, _, hall⟩ := okP_bd h
  have V := fun w h => valid16 true r F W A 9 cap f g w h (by omega)
  rw [h] at V
  replace V := Lib.hid V
  have hc := allC_at 9 hall k hk
  simp only [cOk, Bool.and_eq_true] at hc
  obtain ⟨v0, v1⟩ := inB_t hc.1
  obtain ⟨g0, g1⟩ := inB_t hc.2
  have N := fun w => in29 (k : Int) 0 8 w
  rw [inB_mk (show (0 : Int) ≤ (k : Int) by omega) (show (k : Int) ≤ 8 by omega)] at N
  replace N := Lib.hid N
  have hk0 : (0 : Int) ≤ (k : Int) := by omega
  have hk9 : (k : Int) < 9 := by omega
  have HS := Lib.hid hs
  have hD : -32 ≤ (F - 1000).tdiv 8 ∧ (F - 1000).tdiv 8 ≤ 32 := tq_bd F0 F1
  clear hs h hall hc
  have H1 : Hid (∀ i, (if i = k then lrV F (f k) else f i) = lrf F f k i) := Lib.hid (fun i => rfl)
  have H2 : Hid (∀ i, (if i = k then min 1000 (g k + 1) else g i) = lrg g k i) := Lib.hid (fun i => rfl)
  have H3 : Hid (lrF F f k = F - (lrV F (f k) - f k)) := Lib.hid rfl
  generalize lrf F f k = f' at H1 ⊢
  generalize lrg g k = g' at H2 ⊢
  generalize lrF F f k = F' at H3 ⊢
  go_enter Try.func22, Try.ntmps22
  go_wp2_with fail
  refine (V.out _ (HS.out.below (by go_grown))).mono ?_
  rintro x w1 ⟨rfl, hb1⟩
  have hg1 := chain (w := w) (by go_grown) hb1
  have P1 := ((PV.new (w := w) rfl _ _ _ _ _ _ _).below ((Below.refl _ _).alloc (Nat.le_refl _) _)).below hb1
  have Q1 := (PV.new (P := w.heap.size + 1) (by simp) _ _ _ _ _ _ _).below hb1
  clear hb1
  obtain ⟨p0, p1, p2, p3, p4, e0, e1, e2, e3, e4, hz0⟩ := id P1
  obtain ⟨q0, q1, q2, q3, q4, f0, f1, f2, f3, f4, hz⟩ := id Q1
  have HP := Lib.hid P1
  have HQ := Lib.hid Q1
  clear P1 Q1
  go_wp2_with fail
  refine (N.out _).mono ?_
  rintro x w2 ⟨rfl, rfl⟩
  go_wp2_with fail
  refine (copied30 true r F W A cap f g _ (HS.out.below hg1)).mono ?_
  rintro x w2 ⟨v, rfl, hown, hb2⟩
  obtain ⟨b, c, rfl, hbb, hbl, hcl⟩ := own_q hown
  have hZ : Fz w2 b 18 := own_fz hown
  have hg2 := chain hg1 hb2
  have P2 := (HP.out.below hb2).store true r F W (some ⟨b, 0, none⟩) 9 c
  have hwb : w.heap.size + 1 < b := by omega
  have hneb : b ≠ w.heap.size := by omega
  have hneb1 : b ≠ w.heap.size + 1 := by omega
  have Q2 := (HQ.out.below hb2).fars (b := w.heap.size) (by omega) (.bool true) (.bool r) (.int .i64 F) (.int .i64 W) (.slice (some ⟨b, 0, none⟩) 9 c)
  have sz := hb2.size
  have C2 := hcl.stores (P := w.heap.size) hneb (.bool true) (.bool r) (.int .i64 F) (.int .i64 W) (.slice (some ⟨b, 0, none⟩) 9 c)
  have Z2 := ((((hZ.set ⟨w.heap.size, 0, none⟩ (.bool true)).set ⟨w.heap.size, 1, none⟩ (.bool r)).set ⟨w.heap.size, 2, none⟩ (.int .i64 F)).set ⟨w.heap.size, 3, none⟩ (.int .i64 W)).set ⟨w.heap.size, 4, none⟩ (.slice (some ⟨b, 0, none⟩) 9 c)
  have G2 : Below w.heap.size w (((((w2.setCell ⟨w.heap.size, 0, none⟩ (.bool true)).setCell ⟨w.heap.size, 1, none⟩ (.bool r)).setCell ⟨w.heap.size, 2, none⟩ (.int .i64 F)).setCell ⟨w.heap.size, 3, none⟩ (.int .i64 W)).setCell ⟨w.heap.size, 4, none⟩ (.slice (some ⟨b, 0, none⟩) 9 c)) := by go_grown
  have PP := HP.out.below hb2
  clear p0 p1 p2 p3 p4 e0 e1 e2 e3 e4 q0 q1 q2 q3 q4 f0 f1 f2 f3 f4 hg1 hb2
  obtain ⟨p0, p1, p2, p3, p4, e0, e1, e2, e3, e4, hz2⟩ := PP
  clear HP HQ hown V N HS hcl hZ
  go_wp2_with fail
  obtain ⟨w3, hw3⟩ : ∃ w3, w3 = (((((w2.setCell ⟨w.heap.size, 0, none⟩ (.bool true)).setCell ⟨w.heap.size, 1, none⟩ (.bool r)).setCell ⟨w.heap.size, 2, none⟩ (.int .i64 F)).setCell ⟨w.heap.size, 3, none⟩ (.int .i64 W)).setCell ⟨w.heap.size, 4, none⟩ (.slice (some ⟨b, 0, none⟩) 9 c)) := ⟨_, rfl⟩
  rw [← hw3] at P2 Q2 C2 Z2 G2 ⊢
  clear hw3 p0 p1 p2 p3 p4 e0 e1 e2 e3 e4
  obtain ⟨p0, p1, p2, p3, p4, e0, e1, e2, e3, e4, hz3⟩ := id P2
  obtain ⟨q0, q1, q2, q3, q4, f0, f1, f2, f3, f4, hz4⟩ := id Q2
  obtain ⟨b', off', e, hb', hc'⟩ := id C2 (by omega)
  injection e with e; injection e with e1' e2'
  subst e1'; subst e2'
  obtain ⟨c0, c1⟩ := hc' k hk
  simp only [Nat.zero_add] at c0 c1
  have z3 := Z2 (k * 2) (by omega)
  have z4 := Z2 (k * 2 + 1) (by omega)
  obtain ⟨x, hx⟩ : ∃ x, x = f k := ⟨_, rfl⟩
  obtain ⟨y, hy⟩ : ∃ y, y = g k := ⟨_, rfl⟩
  rw [← hx] at c0 v0 v1 H1 H3
  rw [← hy] at c1 g0 g1 H2
  have HX := Lib.hid (And.intro hx hy)
  obtain ⟨q, hq⟩ : ∃ q, (F - 1000).tdiv 8 = q := ⟨_, rfl⟩
  rw [hq] at hD
  have hVb : -100 ≤ lrV F x ∧ lrV F x ≤ 100 := by unfold lrV clamp; omega
  obtain ⟨V, hV⟩ : ∃ V, V = lrV F x := ⟨_, rfl⟩
  have CP := fun w => clamp31 (x + q) (-100) 100 w
  have hV' : clamp (x + q) (-100) 100 = V := by rw [hV]; unfold lrV; rw [hq]
  rw [hV'] at CP
  rw [← hV] at H1 H3 hVb
  replace CP := Lib.hid CP
  obtain ⟨V0, V1⟩ := hVb
  obtain ⟨D0, D1⟩ := hD
  have HR := Lib.hid (And.intro P2 (And.intro Q2 (And.intro C2 (And.intro Z2 G2))))
  have hF' : Hid (F' = F - (V - x)) := H3
  have w1' : IntKind.i64.wrap (F - 1000) = F - 1000 := IntWalk.i64_in _ (by omega)
  have w2' : IntKind.i64.wrap q = q := IntWalk.i64_in _ (by omega)
  have w3' : IntKind.i64.wrap (x + q) = x + q := IntWalk.i64_in _ (by omega)
  have w4' : IntKind.i64.wrap (V - x) = V - x := IntWalk.i64_in _ (by omega)
  have w5' : IntKind.i64.wrap (F - (V - x)) = F - (V - x) := IntWalk.i64_in _ (by omega)
  have z5 : w.heap.size + 1 < w3.heap.size := hz4
  clear hx hy hV hV' C2 Z2 P2 Q2 G2 hc' H3
  go_region_held3 (fun W' => W'.cell? ⟨w.heap.size, 2, none⟩ = some (.int .i64 F) ∧ W'.cell? ⟨b, k * 2, none⟩ = some (.int .i64 x))
      (first | exact ⟨p2, c0⟩ | go_keep)
      (first | (go_at_call 31; refine (CP.out _).mono ?_; rintro x w5 ⟨rfl, rfl⟩) | fail)
  go_wp2_with fail
  go_region
  go_wp2_with fail
  all_goals
    refine bodyPost_ret (v := .tuple #[.agg #[.bool true, .bool r, .int .i64 (F - (V - x)), .int .i64 W, .slice (some ⟨b, 0, none⟩) 9 c], .int .i64 0]) (by simp [results, Try.results22, go_sem, q0, q1, q2, q3, q4, hz4, hneb1] <;> first | rfl | ((repeat' apply And.intro) <;> rfl)) rfl (.inl ⟨rfl, b, c, by rw [hF'.out], by omega, by simpa using hb', ?_, ?_⟩)
    rotate_left 1
    · have hG := HR.out.2.2.2.2
      have hbw : w.heap.size ≤ b := by omega
      have hh1 : w.heap.size ≤ w.heap.size + 1 := by omega
      exact ((((((((hG.setCell (Nat.le_refl _) _).setCell hbw _).setCell hbw _).setCell hh1 _).setCell hh1 _).setCell hh1 _).setCell hh1 _).setCell hh1 _).drew.drew
    have hC := ((((HR.out.2.2.1.store hneb 2 (.int .i64 (F - (V - x)))).put (k := k) (x := V) (y := min 1000 (y + 1)) hk).stores hneb1 (.bool true) (.bool r) (.int .i64 (F - (V - x))) (.int .i64 W) (.slice (some ⟨b, 0, none⟩) 9 c)).below (Below.refl _ _).drew).below (Below.refl _ _).drew
    have hC' := hC.congr (fun i _ => ⟨H1.out i, H2.out i⟩)
    rw [show min 1000 (y + 1) = _ from by first | exact Int.min_eq_left (by omega) | exact Int.min_eq_right (by omega)] at hC'
    exact hC'
set_option maxHeartbeats 1000000 in
theorem learn23_arg (a r : Bool) (F W : Int) (A : Option Addr) (n cap : Nat) (f g : Nat → Int) (k : Int) (w : World) (hs : Cls w A n f g) (hl : n ≤ 9223372036854775807) (h : okP a r F W n f g = false) :
    Calls Try.prog 23 #[.agg #[.bool a, .bool r, .int .i64 F, .int .i64 W, .slice A n cap], .int .i64 k] w (LrPost 1 false 0 0 (fun _ => 0) (fun _ => 0) w) := by
  have V := fun w h => valid21 a r F W A n cap f g w h hl
  have HS := Lib.hid hs
  clear hs
  rw [h] at V
  replace V := Lib.hid V
  clear h
  go_enter Try.func23, Try.ntmps23
  go_wp2_with fail
  refine (V.out _ (HS.out.below (by go_grown))).mono ?_
  rintro x w1 ⟨rfl, hb1⟩
  have hg1 := chain (w := w) (by go_grown) hb1
  have P1 := ((PV.new (w := w) rfl _ _ _ _ _ _ _).below ((Below.refl _ _).alloc (Nat.le_refl _) _)).below hb1
  have Q1 := (PV.new (P := w.heap.size + 1) (by simp) _ _ _ _ _ _ _).below hb1
  clear hb1
  obtain ⟨p0, p1, p2, p3, p4, e0, e1, e2, e3, e4, hz0⟩ := id P1
  obtain ⟨q0, q1, q2, q3, q4, f0, f1, f2, f3, f4, hz⟩ := id Q1
  have HP := Lib.hid P1
  have HQ := Lib.hid Q1
  clear P1 Q1
  go_wp2_with fail
  refine bodyPost_ret (v := .tuple #[.agg #[.bool false, .bool false, .int .i64 0, .int .i64 0, .slice none 0 0], .int .i64 1]) (by simp [results, Try.results23, go_sem, p0, p1, p2, p3, p4, q0, q1, q2, q3, q4, hz, hz0] <;> first | rfl | ((repeat' apply And.intro) <;> rfl)) rfl (.inr ⟨by decide, rfl, by go_grown⟩)
set_option maxHeartbeats 1000000 in
theorem learn23_range (a r : Bool) (F W : Int) (A : Option Addr) (n cap : Nat) (f g : Nat → Int) (k : Int) (w : World) (hs : Cls w A n f g) (hl : n ≤ 9223372036854775807) (h : okP a r F W n f g = true) (h2 : inB k 0 8 = false) :
    Calls Try.prog 23 #[.agg #[.bool a, .bool r, .int .i64 F, .int .i64 W, .slice A n cap], .int .i64 k] w (LrPost 2 false 0 0 (fun _ => 0) (fun _ => 0) w) := by
  have V := fun w h => valid21 a r F W A n cap f g w h hl
  have HS := Lib.hid hs
  clear hs
  rw [h] at V
  replace V := Lib.hid V
  clear h
  have N := fun w => in33 k 0 8 w
  rw [h2] at N
  replace N := Lib.hid N
  clear h2
  go_enter Try.func23, Try.ntmps23
  go_wp2_with fail
  refine (V.out _ (HS.out.below (by go_grown))).mono ?_
  rintro x w1 ⟨rfl, hb1⟩
  have hg1 := chain (w := w) (by go_grown) hb1
  have P1 := ((PV.new (w := w) rfl _ _ _ _ _ _ _).below ((Below.refl _ _).alloc (Nat.le_refl _) _)).below hb1
  have Q1 := (PV.new (P := w.heap.size + 1) (by simp) _ _ _ _ _ _ _).below hb1
  clear hb1
  obtain ⟨p0, p1, p2, p3, p4, e0, e1, e2, e3, e4, hz0⟩ := id P1
  obtain ⟨q0, q1, q2, q3, q4, f0, f1, f2, f3, f4, hz⟩ := id Q1
  have HP := Lib.hid P1
  have HQ := Lib.hid Q1
  clear P1 Q1
  go_wp2_with fail
  refine (N.out _).mono ?_
  rintro x w2 ⟨rfl, rfl⟩
  go_wp2_with fail
  refine bodyPost_ret (v := .tuple #[.agg #[.bool false, .bool false, .int .i64 0, .int .i64 0, .slice none 0 0], .int .i64 2]) (by simp [results, Try.results23, go_sem, p0, p1, p2, p3, p4, q0, q1, q2, q3, q4, hz, hz0] <;> first | rfl | ((repeat' apply And.intro) <;> rfl)) rfl (.inr ⟨by decide, rfl, by go_grown⟩)
set_option maxHeartbeats 1000000 in
theorem learn23_state (r : Bool) (F W : Int) (A : Option Addr) (n cap : Nat) (f g : Nat → Int) (k : Int) (w : World) (hs : Cls w A n f g) (hl : n ≤ 9223372036854775807) (h : okP false r F W n f g = true) (h2 : inB k 0 8 = true) :
    Calls Try.prog 23 #[.agg #[.bool false, .bool r, .int .i64 F, .int .i64 W, .slice A n cap], .int .i64 k] w (LrPost 6 false 0 0 (fun _ => 0) (fun _ => 0) w) := by
  have V := fun w h => valid21 false r F W A n cap f g w h hl
  have HS := Lib.hid hs
  clear hs
  rw [h] at V
  replace V := Lib.hid V
  clear h
  have N := fun w => in33 k 0 8 w
  rw [h2] at N
  replace N := Lib.hid N
  clear h2
  go_enter Try.func23, Try.ntmps23
  go_wp2_with fail
  refine (V.out _ (HS.out.below (by go_grown))).mono ?_
  rintro x w1 ⟨rfl, hb1⟩
  have hg1 := chain (w := w) (by go_grown) hb1
  have P1 := ((PV.new (w := w) rfl _ _ _ _ _ _ _).below ((Below.refl _ _).alloc (Nat.le_refl _) _)).below hb1
  have Q1 := (PV.new (P := w.heap.size + 1) (by simp) _ _ _ _ _ _ _).below hb1
  clear hb1
  obtain ⟨p0, p1, p2, p3, p4, e0, e1, e2, e3, e4, hz0⟩ := id P1
  obtain ⟨q0, q1, q2, q3, q4, f0, f1, f2, f3, f4, hz⟩ := id Q1
  have HP := Lib.hid P1
  have HQ := Lib.hid Q1
  clear P1 Q1
  go_wp2_with fail
  refine (N.out _).mono ?_
  rintro x w2 ⟨rfl, rfl⟩
  go_wp2_with fail
  refine bodyPost_ret (v := .tuple #[.agg #[.bool false, .bool false, .int .i64 0, .int .i64 0, .slice none 0 0], .int .i64 6]) (by simp [results, Try.results23, go_sem, p0, p1, p2, p3, p4, q0, q1, q2, q3, q4, hz, hz0] <;> first | rfl | ((repeat' apply And.intro) <;> rfl)) rfl (.inr ⟨by decide, rfl, by go_grown⟩)
set_option maxRecDepth 100000 in
set_option maxHeartbeats 4000000 in
theorem learn23_ok (r : Bool) (F W : Int) (A : Option Addr) (cap : Nat) (f g : Nat → Int) (k : Nat) (w : World) (hs : Cls w A 9 f g) (h : okP true r F W 9 f g = true) (hk : k < 9) :
    Calls Try.prog 23 #[.agg #[.bool true, .bool r, .int .i64 F, .int .i64 W, .slice A 9 cap], .int .i64 k] w (LrPost 0 r (lrF F f k) W (lrf F f k) (lrg g k) w) := by
  obtain ⟨F0, F1, _, _, _, _, hall⟩ := okP_bd h
  have V := fun w h => valid21 true r F W A 9 cap f g w h (by omega)
  rw [h] at V
  replace V := Lib.hid V
  have hc := allC_at 9 hall k hk
  simp only [cOk, Bool.and_eq_true] at hc
  obtain ⟨v0, v1⟩ := inB_t hc.1
  obtain ⟨g0, g1⟩ := inB_t hc.2
  have N := fun w => in33 (k : Int) 0 8 w
  rw [inB_mk (show (0 : Int) ≤ (k : Int) by omega) (show (k : Int) ≤ 8 by omega)] at N
  replace N := Lib.hid N
  have hk0 : (0 : Int) ≤ (k : Int) := by omega
  have hk9 : (k : Int) < 9 := by omega
  have HS := Lib.hid hs
  have hD : -32 ≤ (F - 1000).tdiv 8 ∧ (F - 1000).tdiv 8 ≤ 32 := tq_bd F0 F1
  clear hs h hall hc
  have H1 : Hid (∀ i, (if i = k then lrV F (f k) else f i) = lrf F f k i) := Lib.hid (fun i => rfl)
  have H2 : Hid (∀ i, (if i = k then min 1000 (g k + 1) else g i) = lrg g k i) := Lib.hid (fun i => rfl)
  have H3 : Hid (lrF F f k = F - (lrV F (f k) - f k)) := Lib.hid rfl
  generalize lrf F f k = f' at H1 ⊢
  generalize lrg g k = g' at H2 ⊢
  generalize lrF F f k = F' at H3 ⊢
  go_enter Try.func23, Try.ntmps23
  go_wp2_with fail
  refine (V.out _ (HS.out.below (by go_grown))).mono ?_
  rintro x w1 ⟨rfl, hb1⟩
  have hg1 := chain (w := w) (by go_grown) hb1
  have P1 := ((PV.new (w := w) rfl _ _ _ _ _ _ _).below ((Below.refl _ _).alloc (Nat.le_refl _) _)).below hb1
  have Q1 := (PV.new (P := w.heap.size + 1) (by simp) _ _ _ _ _ _ _).below hb1
  clear hb1
  obtain ⟨p0, p1, p2, p3, p4, e0, e1, e2, e3, e4, hz0⟩ := id P1
  obtain ⟨q0, q1, q2, q3, q4, f0, f1, f2, f3, f4, hz⟩ := id Q1
  have HP := Lib.hid P1
  have HQ := Lib.hid Q1
  clear P1 Q1
  go_wp2_with fail
  refine (N.out _).mono ?_
  rintro x w2 ⟨rfl, rfl⟩
  go_wp2_with fail
  refine (copy34 true r F W A cap f g _ (HS.out.below hg1)).mono ?_
  rintro x w2 ⟨v, rfl, hown, hb2⟩
  obtain ⟨b, c, rfl, hbb, hbl, hcl⟩ := own_q hown
  have hZ : Fz w2 b 18 := own_fz hown
  have hg2 := chain hg1 hb2
  have P2 := HP.out.below hb2
  have Q2 := HQ.out.below hb2
  have sz := hb2.size
  have zz : w.heap.size + 1 < w1.heap.size := hz
  have hwb : w.heap.size + 1 < b := by omega
  clear hb2 p0 p1 p2 p3 p4 e0 e1 e2 e3 e4 q0 q1 q2 q3 q4 f0 f1 f2 f3 f4 HP HQ hg1 V N hown
  obtain ⟨p0, p1, p2, p3, p4, e0, e1, e2, e3, e4, hzp⟩ := id P2
  obtain ⟨q0, q1, q2, q3, q4, f0, f1, f2, f3, f4, hzq⟩ := id Q2
  have hA : Below w2.heap.size w2 (w2.alloc (.cells #[.bool true, .bool r, .int .i64 F, .int .i64 W, .slice (some ⟨b, 0, none⟩) 9 c] 24)) := (Below.refl _ _).alloc (Nat.le_refl _) _
  have P3 := P2.below hA
  have Q3 := Q2.below hA
  have O3 := PV.new (w := w2) rfl true r F W (some ⟨b, 0, none⟩) 9 c
  have C3 := hcl.below hA
  have Z3 := hZ.below hbl hA
  have G3 : Below w.heap.size w (w2.alloc (.cells #[.bool true, .bool r, .int .i64 F, .int .i64 W, .slice (some ⟨b, 0, none⟩) 9 c] 24)) := by go_grown
  have D3 := HS.out
  have HCl := Lib.hid (And.intro hcl hZ)
  have hcG := (bcell G3).1
  clear hcl hZ HS
  go_upto_region 8 with fail
  obtain ⟨w3, hw3⟩ : ∃ w3, w3 = w2.alloc (.cells #[.bool true, .bool r, .int .i64 F, .int .i64 W, .slice (some ⟨b, 0, none⟩) 9 c] 24) := ⟨_, rfl⟩
  rw [← hw3] at P3 Q3 O3 C3 Z3 G3 hcG ⊢
  have hbo : b ≠ w2.heap.size := by omega
  have hneb : b ≠ w.heap.size := by omega
  have hneb1 : b ≠ w.heap.size + 1 := by omega
  clear hw3 hA P2 Q2 HCl p0 p1 p2 p3 p4 q0 q1 q2 q3 q4 e0 e1 e2 e3 e4 f0 f1 f2 f3 f4 hg2
  obtain ⟨p0, p1, p2, p3, p4, _, _, _, _, _, hzp3⟩ := id P3
  obtain ⟨q0, q1, q2, q3, q4, f0, f1, f2, f3, f4, hzq3⟩ := id Q3
  obtain ⟨o0, o1, o2, o3, o4, e0, e1, e2, e3, e4, hzo3⟩ := id O3
  obtain ⟨b', off', e, hb', hc'⟩ := id C3 (by omega)
  injection e with e; injection e with e1' e2'
  subst e1'; subst e2'
  obtain ⟨c0, c1⟩ := hc' k hk
  simp only [Nat.zero_add] at c0 c1
  have z3 := Z3 (k * 2) (by omega)
  have z4 := Z3 (k * 2 + 1) (by omega)
  obtain ⟨ba, oa, rfl, hba, hd'⟩ := id D3 (by omega)
  obtain ⟨d0, d1⟩ := hd' k hk
  replace d0 := (hcG _ _ hba).trans d0
  replace d1 := (hcG _ _ hba).trans d1
  have hn1 : w2.heap.size ≠ w.heap.size := by omega
  have hn2 : w2.heap.size ≠ ba := by omega
  have hn3 : b ≠ ba := by omega
  have hbo' : w2.heap.size ≠ b := by omega
  clear hcG
  obtain ⟨x, hx⟩ : ∃ x, x = f k := ⟨_, rfl⟩
  obtain ⟨y, hy⟩ : ∃ y, y = g k := ⟨_, rfl⟩
  rw [← hx] at c0 d0 v0 v1 H1 H3
  rw [← hy] at c1 d1 g0 g1 H2
  obtain ⟨q, hq⟩ : ∃ q, (F - 1000).tdiv 8 = q := ⟨_, rfl⟩
  rw [hq] at hD
  obtain ⟨V, hV⟩ : ∃ V, V = lrV F x := ⟨_, rfl⟩
  have hV' : clamp (x + q) (-100) 100 = V := by rw [hV]; unfold lrV; rw [hq]
  rw [← hV] at H1 H3
  obtain ⟨D0, D1⟩ := hD
  have HR := Lib.hid (And.intro C3 G3)
  have HV := Lib.hid hV'
  have w1' : IntKind.i64.wrap (F - 1000) = F - 1000 := IntWalk.i64_in _ (by omega)
  have w2' : IntKind.i64.wrap q = q := IntWalk.i64_in _ (by omega)
  have w3' : IntKind.i64.wrap (x + q) = x + q := IntWalk.i64_in _ (by omega)
  have z5 : w.heap.size + 1 < w3.heap.size := hzq3
  clear hx hy hV hV' C3 Z3 P3 Q3 O3 G3 D3 hc' hd' p0 p1 p3
  rcases (by omega : x + q ≤ -100 ∨ (-100 < x + q ∧ x + q < 100) ∨ 100 ≤ x + q) with kq | ⟨kq, kq'⟩ | kq
  all_goals
    rcases (by omega : 1000 ≤ y + 1 ∨ y + 1 < 1000) with ky | ky
  all_goals
    go_upto_region 12 with fail
    have w4' : IntKind.i64.wrap (y + 1) = y + 1 := IntWalk.i64_in _ (by omega)
    go_region
    go_wp2_with fail
    refine bodyPost_ret (v := .tuple #[.agg #[.bool true, .bool r, .int .i64 _, .int .i64 W, .slice (some ⟨b, 0, none⟩) 9 c], .int .i64 0]) (by simp [results, Try.results23, go_sem, q0, q1, q2, q3, q4, hzq3, hneb1] <;> first | rfl | ((repeat' apply And.intro) <;> rfl)) rfl (.inl ⟨rfl, b, c, ret_pr rfl rfl ?_ rfl, by omega, by simpa using hb', ?_, ?_⟩)
    · rw [H3.out, ← HV.out]; unfold clamp; omega
    · refine Cls.congr (Cls.below (Cls.stores (Cls.put (Cls.store HR.out.1 hbo 2 _) hk) hneb1 _ _ _ _ _) (Below.refl _ _).drew) (fun i _ => ⟨?_, ?_⟩)
      · rw [← H1.out i]
        by_cases e : i = k
        · simp only [if_pos e]
          rw [← HV.out]; unfold clamp; omega
        · simp only [if_neg e]
      · rw [← H2.out i]
        by_cases e : i = k
        · simp only [if_pos e]
          omega
        · simp only [if_neg e]
    · have hG := HR.out.2
      have hbw : w.heap.size ≤ b := by omega
      have hh1 : w.heap.size ≤ w.heap.size + 1 := by omega
      have hh2 : w.heap.size ≤ w2.heap.size := by omega
      exact ((((((((hG.setCell (p := ⟨w2.heap.size, 2, none⟩) hh2 _).setCell hbw _).setCell hbw _).setCell hh1 _).setCell hh1 _).setCell hh1 _).setCell hh1 _).setCell hh1 _).drew
theorem LrPost.any {e : Int} {r r' : Bool} {F W F' W' : Int} {f g f' g' : Nat → Int} {w w' : World} {x : Ending} (he : e ≠ 0) (h : LrPost e r F W f g w x w') : LrPost e r' F' W' f' g' w x w' := by
  rcases h with ⟨h, _⟩ | h
  · exact absurd h he
  · exact .inr h
theorem learn22 (a r : Bool) (F W : Int) (A : Option Addr) (n cap : Nat) (f g : Nat → Int) (k : Int) (w : World) (hs : Cls w A n f g) (hl : n ≤ 9223372036854775807) :
    Calls Try.prog 22 #[.agg #[.bool a, .bool r, .int .i64 F, .int .i64 W, .slice A n cap], .int .i64 k] w (LrPost (lrE a r F W n f g k) r (lrF F f k.toNat) W (lrf F f k.toNat) (lrg g k.toNat) w) := by
  unfold lrE
  cases h : okP a r F W n f g
  · exact (learn22_arg a r F W A n cap f g k w hs hl h).mono fun x w' j => by simp only [if_neg (show ¬ (false = true) by decide)]; exact j.any (by decide)
  · rw [if_pos rfl]
    cases h2 : inB k 0 8
    · exact (learn22_range a r F W A n cap f g k w hs hl h h2).mono fun x w' j => by simp only [if_neg (show ¬ (false = true) by decide)]; exact j.any (by decide)
    · rw [if_pos rfl]
      cases a
      · exact (learn22_state r F W A n cap f g k w hs hl h h2).mono fun x w' j => by simp only [if_neg (show ¬ (false = true) by decide)]; exact j.any (by decide)
      · obtain ⟨_, _, _, _, rfl, _⟩ := okP_bd h
        obtain ⟨k0, k1⟩ := inB_t h2
        obtain ⟨j, rfl⟩ : ∃ j : Nat, k = j := ⟨k.toNat, by omega⟩
        exact learn22_ok r F W A cap f g j w hs h (by omega)
theorem learn23 (a r : Bool) (F W : Int) (A : Option Addr) (n cap : Nat) (f g : Nat → Int) (k : Int) (w : World) (hs : Cls w A n f g) (hl : n ≤ 9223372036854775807) :
    Calls Try.prog 23 #[.agg #[.bool a, .bool r, .int .i64 F, .int .i64 W, .slice A n cap], .int .i64 k] w (LrPost (lrE a r F W n f g k) r (lrF F f k.toNat) W (lrf F f k.toNat) (lrg g k.toNat) w) := by
  unfold lrE
  cases h : okP a r F W n f g
  · exact (learn23_arg a r F W A n cap f g k w hs hl h).mono fun x w' j => by simp only [if_neg (show ¬ (false = true) by decide)]; exact j.any (by decide)
  · rw [if_pos rfl]
    cases h2 : inB k 0 8
    · exact (learn23_range a r F W A n cap f g k w hs hl h h2).mono fun x w' j => by simp only [if_neg (show ¬ (false = true) by decide)]; exact j.any (by decide)
    · rw [if_pos rfl]
      cases a
      · exact (learn23_state r F W A n cap f g k w hs hl h h2).mono fun x w' j => by simp only [if_neg (show ¬ (false = true) by decide)]; exact j.any (by decide)
      · obtain ⟨_, _, _, _, rfl, _⟩ := okP_bd h
        obtain ⟨k0, k1⟩ := inB_t h2
        obtain ⟨j, rfl⟩ : ∃ j : Nat, k = j := ⟨k.toNat, by omega⟩
        exact learn23_ok r F W A cap f g j w hs h (by omega)
end Go.Proofs.Ytemfjikiopcgpaa
