/-
  The contract of the reference's Same at equal states. No condition but the slices' shape.
-/
import Derived.Test.YtemfjikiopcgpaaRefCopy
set_option linter.unusedVariables false
set_option linter.unusedSimpArgs false
namespace Go.Proofs.Ytemfjikiopcgpaa
open Go.RowKit
set_option maxHeartbeats 2000000 in
theorem same15 (a r : Bool) (F W : Int) (A B : Option Addr) (n c d : Nat) (f g : Nat → Int) (w : World) (ha : Cls w A n f g) (hb : Cls w B n f g) (hl : n ≤ 9223372036854775807) :
    Calls Try.prog 15 #[.agg #[.bool a, .bool r, .int .i64 F, .int .i64 W, .slice A n c], .agg #[.bool a, .bool r, .int .i64 F, .int .i64 W, .slice B n d]] w fun x w' => x = .returned (.bool true) ∧ Below w.heap.size w w' := by
  have HA := Lib.hid ha
  have HB := Lib.hid hb
  clear ha hb
  go_enter Try.func15, Try.ntmps15
  go_wp2_with fail
  go_loopg [5] n (fun gk ix wr => ∃ k : Nat, k ≤ n ∧ n - k ≤ gk ∧ ix = .int .i64 k ∧ PV w.heap.size wr a r F W A n c ∧ PV (w.heap.size + 1) wr a r F W B n d ∧ Below w.heap.size w wr)
  case atStart => exact ⟨0, Nat.zero_le _, by omega, rfl, (PV.new rfl _ _ _ _ _ _ _).below ((Below.refl _ _).alloc (Nat.le_refl _) _), PV.new (by simp) _ _ _ _ _ _ _, by go_grown⟩
  case round =>
    obtain ⟨k, hk, hg, rfl, hP, hQ, hbl⟩ := hrel
    obtain ⟨p0, p1, p2, p3, p4, e0, e1, e2, e3, e4, z1⟩ := id hP
    obtain ⟨q0, q1, q2, q3, q4, f0, f1, f2, f3, f4, z2⟩ := id hQ
    have HP := Lib.hid hP
    have HQ := Lib.hid hQ
    clear hP hQ
    by_cases hlt : k < n
    · obtain ⟨b1, o1, rfl, hb1, hc1⟩ := HA.out (by omega)
      obtain ⟨b2, o2, rfl, hb2, hc2⟩ := HB.out (by omega)
      obtain ⟨g1, g2⟩ := hc1 k hlt
      obtain ⟨g3, g4⟩ := hc2 k hlt
      replace g1 := ((bcell hbl).1 _ _ hb1).trans g1
      replace g2 := ((bcell hbl).1 _ _ hb1).trans g2
      replace g3 := ((bcell hbl).1 _ _ hb2).trans g3
      replace g4 := ((bcell hbl).1 _ _ hb2).trans g4
      clear hc1 hc2 HA HB
      generalize f k = v1 at g1 g3
      generalize g k = v2 at g2 g4
      go_wp2_with fail
      go_region
      go_wp2
      go_roundg (n - (k + 1))
      case measure => omega
      case rel => exact ⟨k + 1, by omega, by omega, by go_num, HP.out.below (Below.refl _ _).drew, HQ.out.below (Below.refl _ _).drew, hbl.drew⟩
    · obtain rfl : k = n := by omega
      go_wp2
      go_ret
      exact ⟨rfl, hbl⟩
end Go.Proofs.Ytemfjikiopcgpaa
