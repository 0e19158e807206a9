/-
  The contracts of Factor and of its reference. No condition but the slice's shape.
-/
import Derived.Test.YtemfjikiopcgpaaKeep
import Derived.IntWalk
set_option linter.unusedVariables false
set_option linter.unusedSimpArgs false
namespace Go.Proofs.Ytemfjikiopcgpaa
open Go.RowKit
def facV (F : Int) (f : Nat → Int) (s c : Int) : Int := clamp (F + f (cellN s c).toNat) 700 1300
def facN (a r : Bool) (F W : Int) (n : Nat) (f g : Nat → Int) (s c : Int) : Int := if okP a r F W n f g then (if pt s c then facV F f s c else 0) else 0
def facE (a r : Bool) (F W : Int) (n : Nat) (f g : Nat → Int) (s c : Int) : Int := if okP a r F W n f g then (if pt s c then 0 else 2) else 1
theorem fac24_arg (a r : Bool) (F W : Int) (A : Option Addr) (n cap : Nat) (f g : Nat → Int) (s c : Int) (w : World) (hs : Cls w A n f g) (hl : n ≤ 9223372036854775807) (h : okP a r F W n f g = false) :
    Calls Try.prog 24 #[.agg #[.bool a, .bool r, .int .i64 F, .int .i64 W, .slice A n cap], .int .i64 s, .int .i64 c] w (fun x w' => x = .returned (.tuple #[.int .i64 0, .int .i64 1]) ∧ Below w.heap.size w w') := by
  have V := fun w h => valid16 a r F W A n cap f g w h hl
  have HS := Lib.hid hs
  clear hs
  rw [h] at V
  replace V := Lib.hid V
  clear h
  go_enter Try.func24, Try.ntmps24
  go_wp2_with fail
  refine (V.out _ (HS.out.below (by go_grown))).mono ?_
  rintro x w1 ⟨rfl, hb1⟩
  have hg1 := chain (w := w) (by go_grown) hb1
  have P1 := (PV.new (w := w) rfl _ _ _ _ _ _ _).below hb1
  clear hb1
  obtain ⟨p0, p1, p2, p3, p4, e0, e1, e2, e3, e4, hz0⟩ := id P1
  have HP := Lib.hid P1
  clear P1
  go_wp2
  go_ret2
  exact ⟨rfl, hg1⟩
theorem fac24_range (a r : Bool) (F W : Int) (A : Option Addr) (n cap : Nat) (f g : Nat → Int) (s c : Int) (w : World) (hs : Cls w A n f g) (hl : n ≤ 9223372036854775807) (h : okP a r F W n f g = true) (h2 : pt s c = false) :
    Calls Try.prog 24 #[.agg #[.bool a, .bool r, .int .i64 F, .int .i64 W, .slice A n cap], .int .i64 s, .int .i64 c] w (fun x w' => x = .returned (.tuple #[.int .i64 0, .int .i64 2]) ∧ Below w.heap.size w w') := by
  have V := fun w h => valid16 a r F W A n cap f g w h hl
  have HS := Lib.hid hs
  clear hs
  rw [h] at V
  replace V := Lib.hid V
  clear h
  have PT := fun w => point28 s c w
  rw [h2] at PT
  replace PT := Lib.hid PT
  clear h2
  go_enter Try.func24, Try.ntmps24
  go_wp2_with fail
  refine (V.out _ (HS.out.below (by go_grown))).mono ?_
  rintro x w1 ⟨rfl, hb1⟩
  have hg1 := chain (w := w) (by go_grown) hb1
  have P1 := (PV.new (w := w) rfl _ _ _ _ _ _ _).below hb1
  clear hb1
  obtain ⟨p0, p1, p2, p3, p4, e0, e1, e2, e3, e4, hz0⟩ := id P1
  have HP := Lib.hid P1
  clear P1
  go_wp2_with fail
  refine (PT.out _).mono ?_
  rintro x w2 ⟨rfl, rfl⟩
  go_wp2
  go_ret2
  exact ⟨rfl, hg1⟩
set_option maxRecDepth 100000 in
set_option maxHeartbeats 2000000 in
theorem fac24_ok (a r : Bool) (F W : Int) (A : Option Addr) (n cap : Nat) (f g : Nat → Int) (s c : Int) (w : World) (hs : Cls w A n f g) (hl : n ≤ 9223372036854775807) (h : okP a r F W n f g = true) (h2 : pt s c = true) :
    Calls Try.prog 24 #[.agg #[.bool a, .bool r, .int .i64 F, .int .i64 W, .slice A n cap], .int .i64 s, .int .i64 c] w (fun x w' => x = .returned (.tuple #[.int .i64 (facV F f s c), .int .i64 0]) ∧ Below w.heap.size w w') := by
  obtain ⟨F0, F1, _, _, rfl, _, hall⟩ := okP_bd h
  have V := fun w h => valid16 a r F W A 9 cap f g w h hl
  rw [h] at V
  replace V := Lib.hid V
  have PT := fun w => point28 s c w
  have CL := fun w => cell26 s c w
  obtain ⟨k0, k1⟩ := cellN_bd s c h2
  obtain ⟨k, hk⟩ : ∃ k : Nat, cellN s c = k := ⟨(cellN s c).toNat, by omega⟩
  have hkt : (cellN s c).toNat = k := by omega
  unfold facV
  rw [hkt]
  rw [hk] at CL k0 k1
  rw [h2] at PT
  have hkl : k < 9 := by omega
  have hv := inB_t (by have := allC_at 9 hall k hkl; simp only [cOk, Bool.and_eq_true] at this; exact this.1)
  obtain ⟨v, hvv⟩ : ∃ v, v = f k := ⟨_, rfl⟩
  have HC := hs (by omega)
  obtain ⟨b, off, rfl, hb, hcell⟩ := HC
  have d0 := (hcell k hkl).1
  have HS := Lib.hid hs
  rw [← hvv] at d0 hv ⊢
  have hv0 := hv.1
  have hv1 := hv.2
  replace PT := Lib.hid PT
  replace CL := Lib.hid CL
  have hwf := d0
  clear hs h h2 hall hk hkt hcell hvv hv
  have CP := fun w => clamp31 (F + v) 700 1300 w
  obtain ⟨z, hz⟩ : ∃ z, z = clamp (F + v) 700 1300 := ⟨_, rfl⟩
  rw [← hz] at CP ⊢
  have HZ := Lib.hid hz
  clear hz
  replace CP := Lib.hid CP
  have D0 := Lib.hid d0
  clear d0 hwf
  go_enter Try.func24, Try.ntmps24
  go_wp2_with fail
  refine (V.out _ (HS.out.below (by go_grown))).mono ?_
  rintro x w1 ⟨rfl, hb1⟩
  have hg1 := chain (w := w) (by go_grown) hb1
  have P1 := (PV.new (w := w) rfl _ _ _ _ _ _ _).below hb1
  clear hb1
  obtain ⟨p0, p1, p2, p3, p4, e0, e1, e2, e3, e4, hz0⟩ := id P1
  have HP := Lib.hid P1
  clear P1
  go_wp2_with fail
  refine (PT.out _).mono ?_
  rintro x w2 ⟨rfl, rfl⟩
  obtain ⟨hcA, _⟩ := bcell hg1
  have d1 := (hcA _ _ hb).trans D0.out
  have hbl : b < w1.heap.size := Nat.lt_of_lt_of_le hb hg1.size
  clear hcA D0 V PT HS
  go_wp2_with fail
  have hk0 : (0 : Int) ≤ (k : Int) := by omega
  have hk9 : (k : Int) < 9 := by omega
  clear p0 p1 p3 e0 e1 e2 e3 e4 HP k0 k1
  have hwr : IntKind.i64.wrap (F + v) = F + v := IntWalk.i64_in _ (by omega)
  go_region_held3 (fun W' => (∀ b o, b < w1.heap.size → W'.cell? ⟨b, o, none⟩ = w1.cell? ⟨b, o, none⟩) ∧ Below w1.heap.size w1 W')
    (first | exact Kp.mk (Below.refl _ _).drew | (refine Kp.next ?_ hb3; assumption) | assumption)
    (first | (go_at_call 26; refine (CL.out _).mono ?_; rintro x w3 ⟨rfl, hb3⟩) | (go_at_call 31; refine (CP.out _).mono ?_; rintro x w3 ⟨rfl, rfl⟩))
  rename_i hh
  have hg := chain hg1 hh.2
  go_wp2
  go_ret2
  exact ⟨rfl, hg⟩
theorem fac25_arg (a r : Bool) (F W : Int) (A : Option Addr) (n cap : Nat) (f g : Nat → Int) (s c : Int) (w : World) (hs : Cls w A n f g) (hl : n ≤ 9223372036854775807) (h : okP a r F W n f g = false) :
    Calls Try.prog 25 #[.agg #[.bool a, .bool r, .int .i64 F, .int .i64 W, .slice A n cap], .int .i64 s, .int .i64 c] w (fun x w' => x = .returned (.tuple #[.int .i64 0, .int .i64 1]) ∧ Below w.heap.size w w') := by
  have V := fun w h => valid21 a r F W A n cap f g w h hl
  have HS := Lib.hid hs
  clear hs
  rw [h] at V
  replace V := Lib.hid V
  clear h
  go_enter Try.func25, Try.ntmps25
  go_wp2_with fail
  refine (V.out _ (HS.out.below (by go_grown))).mono ?_
  rintro x w1 ⟨rfl, hb1⟩
  have hg1 := chain (w := w) (by go_grown) hb1
  have P1 := (PV.new (w := w) rfl _ _ _ _ _ _ _).below hb1
  clear hb1
  obtain ⟨p0, p1, p2, p3, p4, e0, e1, e2, e3, e4, hz0⟩ := id P1
  have HP := Lib.hid P1
  clear P1
  go_wp2
  go_ret2
  exact ⟨rfl, hg1⟩
theorem fac25_range (a r : Bool) (F W : Int) (A : Option Addr) (n cap : Nat) (f g : Nat → Int) (s c : Int) (w : World) (hs : Cls w A n f g) (hl : n ≤ 9223372036854775807) (h : okP a r F W n f g = true) (h2 : pt s c = false) :
    Calls Try.prog 25 #[.agg #[.bool a, .bool r, .int .i64 F, .int .i64 W, .slice A n cap], .int .i64 s, .int .i64 c] w (fun x w' => x = .returned (.tuple #[.int .i64 0, .int .i64 2]) ∧ Below w.heap.size w w') := by
  have V := fun w h => valid21 a r F W A n cap f g w h hl
  have HS := Lib.hid hs
  clear hs
  rw [h] at V
  replace V := Lib.hid V
  clear h
  have PT := fun w => point32 s c w
  rw [h2] at PT
  replace PT := Lib.hid PT
  clear h2
  go_enter Try.func25, Try.ntmps25
  go_wp2_with fail
  refine (V.out _ (HS.out.below (by go_grown))).mono ?_
  rintro x w1 ⟨rfl, hb1⟩
  have hg1 := chain (w := w) (by go_grown) hb1
  have P1 := (PV.new (w := w) rfl _ _ _ _ _ _ _).below hb1
  clear hb1
  obtain ⟨p0, p1, p2, p3, p4, e0, e1, e2, e3, e4, hz0⟩ := id P1
  have HP := Lib.hid P1
  clear P1
  go_wp2_with fail
  refine (PT.out _).mono ?_
  rintro x w2 ⟨rfl, rfl⟩
  go_wp2
  go_ret2
  exact ⟨rfl, hg1⟩
set_option maxRecDepth 100000 in
set_option maxHeartbeats 2000000 in
theorem fac25_ok (a r : Bool) (F W : Int) (A : Option Addr) (n cap : Nat) (f g : Nat → Int) (s c : Int) (w : World) (hs : Cls w A n f g) (hl : n ≤ 9223372036854775807) (h : okP a r F W n f g = true) (h2 : pt s c = true) :
    Calls Try.prog 25 #[.agg #[.bool a, .bool r, .int .i64 F, .int .i64 W, .slice A n cap], .int .i64 s, .int .i64 c] w (fun x w' => x = .returned (.tuple #[.int .i64 (facV F f s c), .int .i64 0]) ∧ Below w.heap.size w w') := by
  obtain ⟨F0, F1, _, _, rfl, _, hall⟩ := okP_bd h
  have V := fun w h => valid21 a r F W A 9 cap f g w h hl
  rw [h] at V
  replace V := Lib.hid V
  have PT := fun w => point32 s c w
  have CL := fun w => cell27 s c w
  obtain ⟨k0, k1⟩ := cellN_bd s c h2
  obtain ⟨k, hk⟩ : ∃ k : Nat, cellN s c = k := ⟨(cellN s c).toNat, by omega⟩
  have hkt : (cellN s c).toNat = k := by omega
  unfold facV
  rw [hkt]
  rw [hk] at CL k0 k1
  rw [h2] at PT
  have hkl : k < 9 := by omega
  have hv := inB_t (by have := allC_at 9 hall k hkl; simp only [cOk, Bool.and_eq_true] at this; exact this.1)
  obtain ⟨v, hvv⟩ : ∃ v, v = f k := ⟨_, rfl⟩
  have HC := hs (by omega)
  obtain ⟨b, off, rfl, hb, hcell⟩ := HC
  have d0 := (hcell k hkl).1
  have HS := Lib.hid hs
  rw [← hvv] at d0 hv ⊢
  have hv0 := hv.1
  have hv1 := hv.2
  replace PT := Lib.hid PT
  replace CL := Lib.hid CL
  have hwf := d0
  clear hs h h2 hall hk hkt hcell hvv hv
  have CP := fun w => clamp31 (F + v) 700 1300 w
  obtain ⟨z, hz⟩ : ∃ z, z = clamp (F + v) 700 1300 := ⟨_, rfl⟩
  rw [← hz] at CP ⊢
  have HZ := Lib.hid hz
  clear hz
  replace CP := Lib.hid CP
  have D0 := Lib.hid d0
  clear d0 hwf
  go_enter Try.func25, Try.ntmps25
  go_wp2_with fail
  refine (V.out _ (HS.out.below (by go_grown))).mono ?_
  rintro x w1 ⟨rfl, hb1⟩
  have hg1 := chain (w := w) (by go_grown) hb1
  have P1 := (PV.new (w := w) rfl _ _ _ _ _ _ _).below hb1
  clear hb1
  obtain ⟨p0, p1, p2, p3, p4, e0, e1, e2, e3, e4, hz0⟩ := id P1
  have HP := Lib.hid P1
  clear P1
  go_wp2_with fail
  refine (PT.out _).mono ?_
  rintro x w2 ⟨rfl, rfl⟩
  obtain ⟨hcA, _⟩ := bcell hg1
  have d1 := (hcA _ _ hb).trans D0.out
  have hbl : b < w1.heap.size := Nat.lt_of_lt_of_le hb hg1.size
  clear hcA D0 V PT HS
  go_wp2_with fail
  have hk0 : (0 : Int) ≤ (k : Int) := by omega
  have hk9 : (k : Int) < 9 := by omega
  clear p0 p1 p3 e0 e1 e2 e3 e4 HP k0 k1
  have hwr : IntKind.i64.wrap (F + v) = F + v := IntWalk.i64_in _ (by omega)
  rcases (by omega : F + v < 700 ∨ (700 ≤ F + v ∧ F + v ≤ 1300) ∨ 1300 < F + v) with kk | ⟨kk, kk'⟩ | kk
  all_goals
    go_region_held3 (fun W' => (∀ b o, b < w1.heap.size → W'.cell? ⟨b, o, none⟩ = w1.cell? ⟨b, o, none⟩) ∧ Below w1.heap.size w1 W')
      (first | exact Kp.mk (Below.refl _ _).drew | (refine Kp.next ?_ hb3; assumption) | assumption)
      (first | (go_at_call 27; refine (CL.out _).mono ?_; rintro x w3 ⟨rfl, hb3⟩) | fail)
    rename_i hh
    have hg := chain hg1 hh.2
    go_wp2
    all_goals
      go_ret2
      refine ⟨ret_ii ?_ rfl, hg⟩
      rw [HZ.out]
      unfold clamp
      omega
theorem fac24 (a r : Bool) (F W : Int) (A : Option Addr) (n cap : Nat) (f g : Nat → Int) (s c : Int) (w : World) (hs : Cls w A n f g) (hl : n ≤ 9223372036854775807) :
    Calls Try.prog 24 #[.agg #[.bool a, .bool r, .int .i64 F, .int .i64 W, .slice A n cap], .int .i64 s, .int .i64 c] w (fun x w' => x = .returned (.tuple #[.int .i64 (facN a r F W n f g s c), .int .i64 (facE a r F W n f g s c)]) ∧ Below w.heap.size w w') := by
  unfold facN facE
  cases h : okP a r F W n f g
  · exact fac24_arg a r F W A n cap f g s c w hs hl h
  · cases h2 : pt s c
    · exact fac24_range a r F W A n cap f g s c w hs hl h h2
    · exact fac24_ok a r F W A n cap f g s c w hs hl h h2
theorem fac25 (a r : Bool) (F W : Int) (A : Option Addr) (n cap : Nat) (f g : Nat → Int) (s c : Int) (w : World) (hs : Cls w A n f g) (hl : n ≤ 9223372036854775807) :
    Calls Try.prog 25 #[.agg #[.bool a, .bool r, .int .i64 F, .int .i64 W, .slice A n cap], .int .i64 s, .int .i64 c] w (fun x w' => x = .returned (.tuple #[.int .i64 (facN a r F W n f g s c), .int .i64 (facE a r F W n f g s c)]) ∧ Below w.heap.size w w') := by
  unfold facN facE
  cases h : okP a r F W n f g
  · exact fac25_arg a r F W A n cap f g s c w hs hl h
  · cases h2 : pt s c
    · exact fac25_range a r F W A n cap f g s c w hs hl h h2
    · exact fac25_ok a r F W A n cap f g s c w hs hl h h2
end Go.Proofs.Ytemfjikiopcgpaa
