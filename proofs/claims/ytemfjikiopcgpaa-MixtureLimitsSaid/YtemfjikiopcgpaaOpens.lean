/-
  The contracts of Open and of its reference. No condition but the slice's shape.
-/
import Derived.Test.YtemfjikiopcgpaaKeep
set_option linter.unusedVariables false
set_option linter.unusedSimpArgs false
namespace Go.Proofs.Ytemfjikiopcgpaa
open Go.RowKit
/-- a state whose cells lie in a block of the call's own -/
def QPost (a r : Bool) (F W : Int) (f g : Nat → Int) (w : World) (x : Ending) (w' : World) : Prop :=
  ∃ b c, x = .returned (.agg #[.bool a, .bool r, .int .i64 F, .int .i64 W, .slice (some ⟨b, 0, none⟩) 9 c]) ∧ w.heap.size ≤ b ∧ b < w'.heap.size ∧ Cls w' (some ⟨b, 0, none⟩) 9 f g ∧ Below w.heap.size w w'
theorem q_new {w w' : World} {x : Ending} (h : NewPost w x w') : QPost false false 1000 0 (fun _ => 0) (fun _ => 0) w x w' := by
  obtain ⟨b, h⟩ := h
  exact ⟨b, 9, h⟩
theorem own_q {w : World} {B : Nat} {v : Value} {f g : Nat → Int} (h : Own w B v 9 f g) : ∃ b c, v = .slice (some ⟨b, 0, none⟩) 9 c ∧ B ≤ b ∧ b < w.heap.size ∧ Cls w (some ⟨b, 0, none⟩) 9 f g := by
  obtain ⟨b, c, rfl, h1, h2, _, _⟩ := own_some h
  obtain ⟨_, _, hv, _, _, hc⟩ := own_cls h
  injection hv with hv1 hv2 hv3
  subst hv1
  exact ⟨b, c, rfl, h1, h2, hc⟩
set_option maxHeartbeats 1000000 in
theorem open19_bad (a r : Bool) (F W : Int) (A : Option Addr) (n cap : Nat) (f g : Nat → Int) (w : World) (hs : Cls w A n f g) (hl : n ≤ 9223372036854775807) (h : okP a r F W n f g = false) :
    Calls Try.prog 19 #[.agg #[.bool a, .bool r, .int .i64 F, .int .i64 W, .slice A n cap]] w (QPost false false 1000 0 (fun _ => 0) (fun _ => 0) w) := by
  have V := fun w h => valid16 a r F W A n cap f g w h hl
  have HS := Lib.hid hs
  clear hs
  rw [h] at V
  replace V := Lib.hid V
  clear h
  go_enter Try.func19, Try.ntmps19
  go_wp2_with fail
  refine (V.out _ (HS.out.below (by go_grown))).mono ?_
  rintro x w1 ⟨rfl, hb1⟩
  have hg1 := chain (w := w) (by go_grown) hb1
  have P1 := ((PV.new (w := w) rfl _ _ _ _ _ _ _).below ((Below.refl _ _).alloc (Nat.le_refl _) _)).below hb1
  have Q1 := (PV.new (P := w.heap.size + 1) (by simp) _ _ _ _ _ _ _).below hb1
  clear hb1
  obtain ⟨p0, p1, p2, p3, p4, e0, e1, e2, e3, e4, hz0⟩ := id P1
  obtain ⟨q0, q1, q2, q3, q4, f0, f1, f2, f3, f4, hz⟩ := id Q1
  have HP := Lib.hid P1
  have HQ := Lib.hid Q1
  clear P1 Q1
  go_wp2_with fail
  refine (new17 _).mono ?_
  rintro x w2 ⟨b, rfl, hbb, hbl, hcl, hb2⟩
  have hg2 := chain hg1 hb2
  have Q2 := HQ.out.below hb2
  clear hb2 p0 p1 p2 p3 p4 e0 e1 e2 e3 e4 q0 q1 q2 q3 q4 f0 f1 f2 f3 f4 HP HQ
  obtain ⟨q0, q1, q2, q3, q4, f0, f1, f2, f3, f4, hz2⟩ := id Q2
  clear Q2
  go_wp2_with fail
  refine bodyPost_ret (v := .agg #[.bool false, .bool false, .int .i64 1000, .int .i64 0, .slice (some ⟨b, 0, none⟩) 9 9]) (by simp [results, Try.results19, go_sem, q0, q1, q2, q3, q4, hz] <;> first | rfl | ((repeat' apply And.intro) <;> rfl)) rfl ⟨b, 9, rfl, by omega, by simpa using hbl, hcl.stores (P := w.heap.size + 1) (by omega) _ _ _ _ _, by go_grown⟩
set_option maxHeartbeats 1000000 in
theorem open19_ok (a r : Bool) (F W : Int) (A : Option Addr) (cap : Nat) (f g : Nat → Int) (w : World) (hs : Cls w A 9 f g) (h : okP a r F W 9 f g = true) :
    Calls Try.prog 19 #[.agg #[.bool a, .bool r, .int .i64 F, .int .i64 W, .slice A 9 cap]] w (QPost false false 1000 0 f g w) := by
  have V := fun w h => valid16 a r F W A 9 cap f g w h (by omega)
  have HS := Lib.hid hs
  clear hs
  rw [h] at V
  replace V := Lib.hid V
  clear h
  go_enter Try.func19, Try.ntmps19
  go_wp2_with fail
  refine (V.out _ (HS.out.below (by go_grown))).mono ?_
  rintro x w1 ⟨rfl, hb1⟩
  have hg1 := chain (w := w) (by go_grown) hb1
  have P1 := ((PV.new (w := w) rfl _ _ _ _ _ _ _).below ((Below.refl _ _).alloc (Nat.le_refl _) _)).below hb1
  have Q1 := (PV.new (P := w.heap.size + 1) (by simp) _ _ _ _ _ _ _).below hb1
  clear hb1
  obtain ⟨p0, p1, p2, p3, p4, e0, e1, e2, e3, e4, hz0⟩ := id P1
  obtain ⟨q0, q1, q2, q3, q4, f0, f1, f2, f3, f4, hz⟩ := id Q1
  have HP := Lib.hid P1
  have HQ := Lib.hid Q1
  clear P1 Q1
  go_wp2_with fail
  refine (clone37 A cap f g _ (HS.out.below hg1)).mono ?_
  rintro x w2 ⟨v, rfl, hown, hb2⟩
  obtain ⟨b, c, rfl, hbb, hbl, hcl⟩ := own_q hown
  have hg2 := chain hg1 hb2
  have Q2 := HQ.out.below hb2
  clear hb2 p0 p1 p2 p3 p4 e0 e1 e2 e3 e4 q0 q1 q2 q3 q4 f0 f1 f2 f3 f4 HP HQ hown
  obtain ⟨q0, q1, q2, q3, q4, f0, f1, f2, f3, f4, hz2⟩ := id Q2
  have HC := Lib.hid hcl
  clear Q2 hcl
  go_wp2_with fail
  have hcl := HC.out
  refine bodyPost_ret (v := .agg #[.bool false, .bool false, .int .i64 1000, .int .i64 0, .slice (some ⟨b, 0, none⟩) 9 c]) (by simp [results, Try.results19, go_sem, q0, q1, q2, q3, q4, hz] <;> first | rfl | ((repeat' apply And.intro) <;> rfl)) rfl ⟨b, c, rfl, by omega, by simpa using hbl, hcl.stores (P := w.heap.size + 1) (by omega) _ _ _ _ _, by go_grown⟩
set_option maxHeartbeats 1000000 in
theorem open20_bad (a r : Bool) (F W : Int) (A : Option Addr) (n cap : Nat) (f g : Nat → Int) (w : World) (hs : Cls w A n f g) (hl : n ≤ 9223372036854775807) (h : okP a r F W n f g = false) :
    Calls Try.prog 20 #[.agg #[.bool a, .bool r, .int .i64 F, .int .i64 W, .slice A n cap]] w (QPost false false 1000 0 (fun _ => 0) (fun _ => 0) w) := by
  have V := fun w h => valid21 a r F W A n cap f g w h hl
  have HS := Lib.hid hs
  clear hs
  rw [h] at V
  replace V := Lib.hid V
  clear h
  go_enter Try.func20, Try.ntmps20
  go_wp2_with fail
  refine (V.out _ (HS.out.below (by go_grown))).mono ?_
  rintro x w1 ⟨rfl, hb1⟩
  have hg1 := chain (w := w) (by go_grown) hb1
  have P1 := ((PV.new (w := w) rfl _ _ _ _ _ _ _).below ((Below.refl _ _).alloc (Nat.le_refl _) _)).below hb1
  have Q1 := (PV.new (P := w.heap.size + 1) (by simp) _ _ _ _ _ _ _).below hb1
  clear hb1
  obtain ⟨p0, p1, p2, p3, p4, e0, e1, e2, e3, e4, hz0⟩ := id P1
  obtain ⟨q0, q1, q2, q3, q4, f0, f1, f2, f3, f4, hz⟩ := id Q1
  have HP := Lib.hid P1
  have HQ := Lib.hid Q1
  clear P1 Q1
  go_wp2_with fail
  refine (new18 _).mono ?_
  rintro x w2 ⟨b, rfl, hbb, hbl, hcl, hb2⟩
  have hg2 := chain hg1 hb2
  have Q2 := HQ.out.below hb2
  clear hb2 p0 p1 p2 p3 p4 e0 e1 e2 e3 e4 q0 q1 q2 q3 q4 f0 f1 f2 f3 f4 HP HQ
  obtain ⟨q0, q1, q2, q3, q4, f0, f1, f2, f3, f4, hz2⟩ := id Q2
  clear Q2
  go_wp2_with fail
  refine bodyPost_ret (v := .agg #[.bool false, .bool false, .int .i64 1000, .int .i64 0, .slice (some ⟨b, 0, none⟩) 9 9]) (by simp [results, Try.results20, go_sem, q0, q1, q2, q3, q4, hz] <;> first | rfl | ((repeat' apply And.intro) <;> rfl)) rfl ⟨b, 9, rfl, by omega, by simpa using hbl, hcl.stores (P := w.heap.size + 1) (by omega) _ _ _ _ _, by go_grown⟩
theorem PV.far {P : Nat} {w : World} {a r : Bool} {F W : Int} {A : Option Addr} {n c b : Nat} (h : PV P w a r F W A n c) (hne : b ≠ P) (o : Nat) (u : Value) : PV P (w.setCell ⟨b, o, none⟩ u) a r F W A n c := by
  obtain ⟨h0, h1, h2, h3, h4, k0, k1, k2, k3, k4, hl⟩ := h
  have hc : ∀ j, (w.setCell ⟨b, o, none⟩ u).cell? ⟨P, j, none⟩ = w.cell? ⟨P, j, none⟩ := fun j => World.cell?_setCell_far _ _ _ _ hne
  exact ⟨(hc 0).trans h0, (hc 1).trans h1, (hc 2).trans h2, (hc 3).trans h3, (hc 4).trans h4, by rw [World.frozen?_setCell]; exact k0, by rw [World.frozen?_setCell]; exact k1, by rw [World.frozen?_setCell]; exact k2, by rw [World.frozen?_setCell]; exact k3, by rw [World.frozen?_setCell]; exact k4, by simpa using hl⟩
/-- the cells of a block may be written -/
def Fz (w : World) (b n : Nat) : Prop := ∀ j, j < n → w.frozen? ⟨b, j, none⟩ = false
theorem Fz.set {w : World} {b n : Nat} (h : Fz w b n) (a : Addr) (u : Value) : Fz (w.setCell a u) b n := fun j hj => by rw [World.frozen?_setCell]; exact h j hj
theorem Fz.below {w w' : World} {b n : Nat} (h : Fz w b n) (hb : b < w.heap.size) (k : Below w.heap.size w w') : Fz w' b n := fun j hj => ((bcell k).2 _ _ hb).trans (h j hj)
theorem Cls.put {w : World} {b n k : Nat} {f g : Nat → Int} {x y : Int} (h : Cls w (some ⟨b, 0, none⟩) n f g) (hk : k < n) :
    Cls ((w.setCell ⟨b, k * 2, none⟩ (.int .i64 x)).setCell ⟨b, k * 2 + 1, none⟩ (.int .i64 y)) (some ⟨b, 0, none⟩) n (fun i => if i = k then x else f i) (fun i => if i = k then y else g i) := fun h0 => by
  obtain ⟨b', off', e, hb, hc⟩ := h h0
  injection e with e; injection e with e1 e2
  subst e1; subst e2
  refine ⟨b, 0, rfl, by simpa using hb, fun i hi => ?_⟩
  obtain ⟨c0, c1⟩ := hc i hi
  have hne : ∀ o o' : Nat, o ≠ o' → (⟨b, o, none⟩ : Addr) ≠ ⟨b, o', none⟩ := fun o o' h e => h (by injection e)
  simp only [Nat.zero_add] at c0 c1 ⊢
  by_cases e : i = k
  · subst e
    simp only [if_pos]
    refine ⟨?_, ?_⟩
    · rw [World.cell?_setCell_other _ _ _ _ (hne _ _ (by omega))]
      exact World.cell?_setCell_same _ _ _ c0
    · refine World.cell?_setCell_same (u := .int .i64 (g i)) _ _ _ ?_
      rw [World.cell?_setCell_other _ _ _ _ (hne _ _ (by omega))]
      exact c1
  · simp only [if_neg e]
    refine ⟨?_, ?_⟩
    · rw [World.cell?_setCell_other _ _ _ _ (hne _ _ (by omega)), World.cell?_setCell_other _ _ _ _ (hne _ _ (by omega))]
      exact c0
    · rw [World.cell?_setCell_other _ _ _ _ (hne _ _ (by omega)), World.cell?_setCell_other _ _ _ _ (hne _ _ (by omega))]
      exact c1
theorem Cls.congr {w : World} {A : Option Addr} {n : Nat} {f g f' g' : Nat → Int} (h : Cls w A n f g) (e : ∀ i, i < n → f i = f' i ∧ g i = g' i) : Cls w A n f' g' := fun h0 => by
  obtain ⟨b, off, hA, hb, hc⟩ := h h0
  refine ⟨b, off, hA, hb, fun i hi => ?_⟩
  rw [← (e i hi).1, ← (e i hi).2]
  exact hc i hi
theorem new18_own (w : World) : Calls Try.prog 18 #[] w fun x w' => ∃ b, x = .returned (.agg #[.bool false, .bool false, .int .i64 1000, .int .i64 0, .slice (some ⟨b, 0, none⟩) 9 9]) ∧ w.heap.size ≤ b ∧ b < w'.heap.size ∧ Cls w' (some ⟨b, 0, none⟩) 9 (fun _ => 0) (fun _ => 0) ∧ Fz w' b 18 ∧ Below w.heap.size w w' := by
  have hm := mk9
  go_enter Try.func18, Try.ntmps18
  go_wp2_with fail
  refine bodyPost_ret (v := .agg #[.bool false, .bool false, .int .i64 1000, .int .i64 0, .slice (some ⟨w.heap.size + 1, 0, none⟩) 9 9]) (by simp [results, Try.results18, go_sem] <;> first | rfl | ((repeat' apply And.intro) <;> rfl)) rfl ⟨w.heap.size + 1, rfl, by simp, by simp, ?_, ?_, by go_grown⟩
  · exact zero_cls _ _ (new_at (by simp) _)
  · intro j hj
    have := new_at (W := w.alloc (.cells #[.bool false, .bool false, .int .i64 1000, .int .i64 0, .slice (some ⟨w.heap.size + 1, 0, none⟩) 9 9] 24)) (n := w.heap.size + 1) (by simp) (.cells #[.int .i64 0, .int .i64 0, .int .i64 0, .int .i64 0, .int .i64 0, .int .i64 0, .int .i64 0, .int .i64 0, .int .i64 0, .int .i64 0, .int .i64 0, .int .i64 0, .int .i64 0, .int .i64 0, .int .i64 0, .int .i64 0, .int .i64 0, .int .i64 0] 52)
    simp only [World.frozen?, this]
    simp
set_option maxHeartbeats 2000000 in
theorem open20_ok (a r : Bool) (F W : Int) (A : Option Addr) (cap : Nat) (f g : Nat → Int) (w : World) (hs : Cls w A 9 f g) (h : okP a r F W 9 f g = true) :
    Calls Try.prog 20 #[.agg #[.bool a, .bool r, .int .i64 F, .int .i64 W, .slice A 9 cap]] w (QPost false false 1000 0 f g w) := by
  have V := fun w h => valid21 a r F W A 9 cap f g w h (by omega)
  have HS := Lib.hid hs
  clear hs
  rw [h] at V
  replace V := Lib.hid V
  clear h
  go_enter Try.func20, Try.ntmps20
  go_wp2_with fail
  refine (V.out _ (HS.out.below (by go_grown))).mono ?_
  rintro x w1 ⟨rfl, hb1⟩
  have hg1 := chain (w := w) (by go_grown) hb1
  have P1 := ((PV.new (w := w) rfl _ _ _ _ _ _ _).below ((Below.refl _ _).alloc (Nat.le_refl _) _)).below hb1
  have Q1 := (PV.new (P := w.heap.size + 1) (by simp) _ _ _ _ _ _ _).below hb1
  clear hb1
  obtain ⟨p0, p1, p2, p3, p4, e0, e1, e2, e3, e4, hz0⟩ := id P1
  obtain ⟨q0, q1, q2, q3, q4, f0, f1, f2, f3, f4, hz⟩ := id Q1
  have HP := Lib.hid P1
  have HQ := Lib.hid Q1
  clear P1 Q1
  go_wp2_with fail
  refine (new18_own _).mono ?_
  rintro x w2 ⟨b, rfl, hbb, hbl, hcl, hfz, hb2⟩
  have hg2 := chain hg1 hb2
  have P2 := HP.out.below hb2
  have Q2 := HQ.out.below hb2
  have O2 := PV.new (w := w2) rfl false false 1000 0 (some ⟨b, 0, none⟩) 9 9
  have sz1 := hb2.size
  have hbn : b ≠ w2.heap.size := by omega
  have hnb0 : b ≠ w.heap.size := by omega
  have hnb1 : b ≠ w.heap.size + 1 := by omega
  have hwb : w.heap.size ≤ b := by have := hg1.size; omega
  have C2 := hcl.below ((Below.refl _ _).alloc (Nat.le_refl _) (.cells #[.bool false, .bool false, .int .i64 1000, .int .i64 0, .slice (some ⟨b, 0, none⟩) 9 9] 24))
  have Z2 := hfz.below hbl ((Below.refl _ _).alloc (Nat.le_refl _) (.cells #[.bool false, .bool false, .int .i64 1000, .int .i64 0, .slice (some ⟨b, 0, none⟩) 9 9] 24))
  clear hb2 p0 p1 p2 p3 p4 e0 e1 e2 e3 e4 q0 q1 q2 q3 q4 f0 f1 f2 f3 f4 HP HQ hcl hfz V
  have R0 := Lib.hid (And.intro P2 (And.intro Q2 (And.intro O2 (And.intro C2 Z2))))
  clear P2 Q2 O2 C2 Z2
  go_wp2_with fail
  go_loopg [4] 9 (fun gk ix wr => ∃ (k : Nat) (f1 g1 : Nat → Int), k ≤ 9 ∧ 9 - k ≤ gk ∧ ix = .int .i64 k ∧ Hid (∀ i, i < k → f1 i = f i ∧ g1 i = g i) ∧ PV w.heap.size wr a r F W A 9 cap ∧ PV (w.heap.size + 1) wr false false 0 0 none 0 0 ∧ PV w2.heap.size wr false false 1000 0 (some ⟨b, 0, none⟩) 9 9 ∧ Cls wr (some ⟨b, 0, none⟩) 9 f1 g1 ∧ Fz wr b 18 ∧ Below w.heap.size w wr)
  case atStart =>
    obtain ⟨P2, Q2, O2, C2, Z2⟩ := R0.out
    exact ⟨0, _, _, by omega, by omega, rfl, Lib.hid (fun i hi => absurd hi (Nat.not_lt_zero _)), P2.below ((Below.refl _ _).alloc (Nat.le_refl _) _), Q2.below ((Below.refl _ _).alloc (Nat.le_refl _) _), O2, C2, Z2, by go_grown⟩
  case round =>
    obtain ⟨k, f1, g1, hk, hgk, rfl, HE, hP, hQ, hO, hC, hZ, hbw⟩ := hrel
    obtain ⟨p0, p1, p2, p3, p4, e0, e1, e2, e3, e4, z0⟩ := id hP
    obtain ⟨q0, q1, q2, q3, q4, f0, f1', f2, f3, f4, z1⟩ := id hQ
    obtain ⟨o0, o1, o2, o3, o4, g0, g1', g2, g3, g4, z2⟩ := id hO
    have HR := Lib.hid (And.intro hP (And.intro hQ (And.intro hO (And.intro hC hZ))))
    have HB := Lib.hid hbw
    have hbl2 : b < wr.heap.size := by
      obtain ⟨b', off', e, hb', _⟩ := hC (by omega)
      injection e with e; injection e with e1 e2
      omega
    by_cases hlt : k < 9
    · obtain ⟨bA, oA, rfl, hbA, hcA⟩ := HS.out (by omega)
      obtain ⟨d0, d1⟩ := hcA k hlt
      replace d0 := ((bcell hbw).1 _ _ hbA).trans d0
      replace d1 := ((bcell hbw).1 _ _ hbA).trans d1
      obtain ⟨b', off', e, hb', hc'⟩ := hC (by omega)
      injection e with e; injection e with e1 e2
      subst e1; subst e2
      obtain ⟨c0, c1⟩ := hc' k hlt
      simp only [Nat.zero_add] at c0 c1
      have z3 := hZ (k * 2) (by omega)
      have z4 := hZ (k * 2 + 1) (by omega)
      have hneb : bA ≠ b := by omega
      have hk0 : (0 : Int) ≤ (k : Int) := by omega
      have hk9 : (k : Int) < 9 := by omega
      obtain ⟨x, hx⟩ : ∃ x, x = f k := ⟨_, rfl⟩
      obtain ⟨y, hy⟩ : ∃ y, y = g k := ⟨_, rfl⟩
      rw [← hx] at d0
      rw [← hy] at d1
      have HX := Lib.hid (And.intro hx hy)
      clear hx hy hcA hc' hP hQ hO hC hZ hbw R0
      go_wp2_with fail
      go_region
      go_wp2_with fail
      go_roundg (9 - (k + 1))
      case measure => omega
      case rel =>
        obtain ⟨hP, hQ, hO, hC, hZ⟩ := HR.out
        refine ⟨k + 1, _, _, by omega, by omega, by go_num, Lib.hid (fun i hi => ?_), ?_, ?_, ?_, (hC.below (Below.refl _ _).drew).put (k := k) (x := x) (y := y) hlt, ((hZ.below hbl2 (Below.refl _ _).drew).set _ _).set _ _, ?_⟩
        · by_cases e : i = k
          · subst e
            exact ⟨(if_pos rfl).trans HX.out.1, (if_pos rfl).trans HX.out.2⟩
          · exact ⟨(if_neg e).trans (HE.out i (by omega)).1, (if_neg e).trans (HE.out i (by omega)).2⟩
        · exact ((hP.below (Below.refl _ _).drew).far hnb0 _ _).far hnb0 _ _
        · exact ((hQ.below (Below.refl _ _).drew).far hnb1 _ _).far hnb1 _ _
        · exact ((hO.below (Below.refl _ _).drew).far hbn _ _).far hbn _ _
        · exact (HB.out.drew.setCell (by simp; omega) _).setCell (by simp; omega) _
    · obtain rfl : k = 9 := by omega
      clear hP hQ hO hC hZ hbw R0 p0 p1 p2 p3 p4 e0 e1 e2 e3 e4
      go_wp2_with fail
      have hcl := (HR.out.2.2.2.1).congr HE.out
      have hbw := HB.out
      have hbl := hbl2
      refine bodyPost_ret (v := .agg #[.bool false, .bool false, .int .i64 1000, .int .i64 0, .slice (some ⟨b, 0, none⟩) 9 9]) (by simp [results, Try.results20, go_sem, q0, q1, q2, q3, q4, hz] <;> first | rfl | ((repeat' apply And.intro) <;> rfl)) rfl ⟨b, 9, rfl, by omega, by simpa using hbl, hcl.stores (P := w.heap.size + 1) (by omega) _ _ _ _ _, by go_grown⟩
theorem open19 (a r : Bool) (F W : Int) (A : Option Addr) (n cap : Nat) (f g : Nat → Int) (w : World) (hs : Cls w A n f g) (hl : n ≤ 9223372036854775807) :
    Calls Try.prog 19 #[.agg #[.bool a, .bool r, .int .i64 F, .int .i64 W, .slice A n cap]] w (QPost false false 1000 0 (if okP a r F W n f g then f else fun _ => 0) (if okP a r F W n f g then g else fun _ => 0) w) := by
  cases h : okP a r F W n f g
  · exact open19_bad a r F W A n cap f g w hs hl h
  · obtain ⟨_, _, _, _, rfl, _⟩ := okP_bd h
    exact open19_ok a r F W A cap f g w hs h
theorem open20 (a r : Bool) (F W : Int) (A : Option Addr) (n cap : Nat) (f g : Nat → Int) (w : World) (hs : Cls w A n f g) (hl : n ≤ 9223372036854775807) :
    Calls Try.prog 20 #[.agg #[.bool a, .bool r, .int .i64 F, .int .i64 W, .slice A n cap]] w (QPost false false 1000 0 (if okP a r F W n f g then f else fun _ => 0) (if okP a r F W n f g then g else fun _ => 0) w) := by
  cases h : okP a r F W n f g
  · exact open20_bad a r F W A n cap f g w hs hl h
  · obtain ⟨_, _, _, _, rfl, _⟩ := okP_bd h
    exact open20_ok a r F W A cap f g w hs h
end Go.Proofs.Ytemfjikiopcgpaa
