/-
  The core of the law PedalRuns. No condition.
-/
import Derived.Test.YtpkeghklfbpmhaaSame
set_option linter.unusedVariables false
namespace Go.Proofs.Ytpkeghklfbpmhaa
open Go.RowKit
theorem run12_full (A : Option Addr) (len cap : Nat) (w : World) (hl : 1000 < len) (hm : len ≤ 9223372036854775807) : Calls Try.prog 12 #[.slice A len cap] w fun e w' => e = .returned (.tuple #[.slice none 0 0, .int .i64 5]) ∧ Below w.heap.size w w' := by
  go_enter Try.func12, Try.ntmps12
  go_wp2
  go_ret2
  exact ⟨rfl, by go_grown⟩
theorem pairs_below {w w' : World} {A : Option Addr} {len : Nat} {f g : Nat → Int} (h : Pairs w A len f g) (hb : Below w.heap.size w w') : Pairs w' A len f g := by
  intro h0
  obtain ⟨b, off, hA, hl, hc⟩ := h h0
  have := hb.size
  exact ⟨b, off, hA, by omega, fun i hi => ⟨((bcell hb).1 _ _ hl).trans (hc i hi).1, ((bcell hb).1 _ _ hl).trans (hc i hi).2⟩⟩
theorem states_below {w w' : World} {A : Option Addr} {len : Nat} {f g : Nat → Int} (h : States w A len f g) (hb : Below w.heap.size w w') : States w' A len f g := by
  intro h0
  obtain ⟨b, hA, hl, hc⟩ := h h0
  have := hb.size
  exact ⟨b, hA, by omega, fun i hi => ⟨((bcell hb).1 _ _ hl).trans (hc i hi).1, ((bcell hb).1 _ _ hl).trans (hc i hi).2.1, ((bcell hb).1 _ _ hl).trans (hc i hi).2.2⟩⟩
set_option maxHeartbeats 1000000 in
theorem runs5 (A : Option Addr) (len cap : Nat) (f g : Nat → Int) (w : World) (hs : Pairs w A len f g) (hl : len ≤ 9223372036854775807) :
    Calls Try.prog 5 #[.slice A len cap] w fun e w' => e = .returned (.bool true) ∧ Below w.heap.size w w' := by
  have HS := Lib.hid hs
  clear hs
  rcases (by omega : (100 < len ∧ len ≤ 1000) ∨ 1000 < len ∨ len ≤ 100) with ⟨h1, h2⟩ | h1 | h1
  all_goals
    go_enter Try.func5, Try.ntmps5
    go_wp2_with fail
    refine (awake6 _).mono ?_
    rintro r w1 ⟨rfl, hb1⟩
    have hg1 := chain (w := w) (by go_grown) hb1
    clear hb1
  · go_wp2
    go_ret
    exact ⟨rfl, hg1⟩
  · go_wp2_with fail
    refine (run12_full A len cap _ h1 hl).mono ?_
    rintro r w2 ⟨rfl, hb2⟩
    have hg2 := chain hg1 hb2
    go_wp2
    go_ret
    exact ⟨rfl, hg2⟩
  · go_wp2_with fail
    refine (run12 A len cap f g _ (pairs_below HS.out hg1) (by omega)).mono ?_
    rintro r w2 ⟨v, rfl, hown, hb2⟩
    have hg2 := chain hg1 hb2
    obtain ⟨A1, c1, rfl, hc1, hst⟩ := own_states hown
    have HT := Lib.hid hst
    clear hst hown hb2 hg1
    go_wp2_with fail
    refine (run14 A len cap f g _ (pairs_below HS.out hg2) (by omega)).mono ?_
    rintro r w3 ⟨v, rfl, hown, hb3⟩
    have hg3 := chain hg2 hb3
    obtain ⟨A2, c2, rfl, hc2, hst⟩ := own_states hown
    have S13 := Lib.hid (same13 len c1 c2 A1 A2 f g w3 (states_below HT.out hb3) hst (by omega))
    clear HT hst hown hb3 hg2
    go_wp2_with fail
    refine S13.out.mono ?_
    rintro r w4 ⟨rfl, hb4⟩
    have hg4 := chain hg3 hb4
    go_wp2
    go_ret
    exact ⟨rfl, hg4⟩
end Go.Proofs.Ytpkeghklfbpmhaa
