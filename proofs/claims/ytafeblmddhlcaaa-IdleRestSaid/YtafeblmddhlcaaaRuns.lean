import Derived.Test.YtafeblmddhlcaaaEq
set_option linter.unusedVariables false
namespace Go.Proofs.Ytafeblmddhlcaaa
open Go.RowKit
theorem ints_below {w w' : World} {A : Option Addr} {n : Nat} {f : Nat → Int} (h : Ints .i64 w A n f) (hb : Below w.heap.size w w') : Ints .i64 w' A n f := fun h0 => by
  obtain ⟨b, o, e, hl, hc⟩ := h h0
  exact ⟨b, o, e, Nat.lt_of_lt_of_le hl hb.size, fun i hi => ((below_cell hb).1 _ _ hl).trans (hc i hi)⟩
theorem ints_none (w : World) (A : Option Addr) (f : Nat → Int) : Ints .i64 w A 0 f := fun h => absurd h (Nat.lt_irrefl 0)
theorem own_ints {P I L H t : Int} {f : Nat → Int} {w : World} {base : Nat} {v : Value} {n : Nat} (h : w.ownsRow base 3 1 v n (outs P I L H t f n)) :
    ∃ A cap, v = .slice A n cap ∧ n ≤ cap ∧ Ints .i64 w A n (rnU P I L H t f) := by
  obtain ⟨A, cap, rfl, hg, hc⟩ := own_slice h
  refine ⟨A, cap, rfl, hc, fun h0 => ?_⟩
  obtain ⟨g, rfl, _, hl, hcell⟩ := hg h0
  refine ⟨g, 0, rfl, hl, fun i hi => ?_⟩
  rw [Nat.zero_add]
  exact hcell i _ (by unfold outs; rw [List.getElem?_map, List.getElem?_range hi]; rfl)
set_option maxHeartbeats 1000000 in
theorem runs6 (P I L H t : Int) (A : Option Addr) (len cap : Nat) (f : Nat → Int) (w : World) (hs : Ints .i64 w A len f) (hl : len ≤ 9223372036854775807) :
    Calls Try.prog 6 #[.agg #[.int .i64 P, .int .i64 I, .int .i64 L, .int .i64 H], .int .i64 t, .slice A len cap] w fun r w' => r = .returned (.bool true) ∧ Below w.heap.size w w' := by
  have HS := Lib.hid hs
  clear hs
  go_enter Try.func6, Try.ntmps6
  go_wp2_with fail
  refine (awake8 _).mono ?_
  rintro r w0 ⟨rfl, rfl⟩
  obtain ⟨E, hE⟩ : ∃ E, E = runE P I L H t f len := ⟨_, rfl⟩
  have A17 := fun w0 h => run17 P I L H t A len cap f w0 h hl
  have A18 := fun w0 h => run18 P I L H t A len cap f w0 h hl
  rw [← hE] at A17 A18
  have A17 := Lib.hid A17
  have A18 := Lib.hid A18
  have key : (100 < len ∧ len ≤ 1000) ∨ len ≤ 100 ∨ 1000 < len := by omega
  clear hE
  rcases key with ⟨hb1, hb2⟩ | hb1 | hb1
  · go_wp2
    go_ret
    exact ⟨rfl, by go_grown⟩
  all_goals
    go_wp2_with fail
    refine (A17.out _ (ints_below HS.out (by go_grown))).mono ?_
    rintro r w1 ⟨v1, rfl, hv1, hb1⟩
    have hg1 := chain (w := w) (by go_grown) hb1
    have hc1 := (bcell hb1).1
    have sz1 := hb1.size
    simp at sz1
    have q1 : w1.cell? ⟨w.heap.size, 0, none⟩ = some (.int .i64 P) := (hc1 _ _ (by simp)).trans (by go_cell)
    have q2 : w1.cell? ⟨w.heap.size, 1, none⟩ = some (.int .i64 I) := (hc1 _ _ (by simp)).trans (by go_cell)
    have q3 : w1.cell? ⟨w.heap.size, 2, none⟩ = some (.int .i64 L) := (hc1 _ _ (by simp)).trans (by go_cell)
    have q4 : w1.cell? ⟨w.heap.size, 3, none⟩ = some (.int .i64 H) := (hc1 _ _ (by simp)).trans (by go_cell)
    have hz1 : w.heap.size < w1.heap.size := by omega
    clear hc1 hb1
    have fin : ∃ (n : Nat) (A1 : Option Addr) (c1 : Nat) (g : Nat → Int), v1 = .slice A1 n c1 ∧ n ≤ len ∧ Ints .i64 w1 A1 n g ∧ ((E = 0 ∧ n = len ∧ g = rnU P I L H t f) ∨ (E ≠ 0 ∧ n = 0)) := by
      rcases hv1 with ⟨e0, ho⟩ | ⟨e0, rfl⟩
      · obtain ⟨A1, c1, rfl, _, hi⟩ := own_ints ho
        exact ⟨len, A1, c1, _, rfl, Nat.le_refl _, hi, .inl ⟨e0, rfl, rfl⟩⟩
      · exact ⟨0, none, 0, f, rfl, Nat.zero_le _, ints_none _ _ _, .inr ⟨e0, rfl⟩⟩
    obtain ⟨n, A1, c1, g, rfl, hn, hi1, hc⟩ := fin
    have HC := Lib.hid (And.intro hi1 hc)
    clear hv1 hi1 hc
    go_wp2_with fail
    refine (A18.out _ (ints_below HS.out (by go_grown))).mono ?_
    rintro r w2 ⟨v2, rfl, hv2, hb2⟩
    have hg2 := chain (w := w) (by go_grown) hb2
    have I1 := ints_below HC.out.1 (chain (w := w1) (by go_grown) hb2)
    have fin2 : ∃ (A2 : Option Addr) (c2 : Nat), v2 = .slice A2 n c2 ∧ Ints .i64 w2 A2 n g := by
      rcases HC.out.2 with ⟨e0, rfl, rfl⟩ | ⟨e0, rfl⟩
      · rcases hv2 with ⟨_, ho⟩ | ⟨e1, _⟩
        · obtain ⟨A2, c2, rfl, _, hi⟩ := own_ints ho
          exact ⟨A2, c2, rfl, hi⟩
        · exact absurd e0 e1
      · rcases hv2 with ⟨e1, _⟩ | ⟨_, rfl⟩
        · exact absurd e1 e0
        · exact ⟨none, 0, rfl, ints_none _ _ _⟩
    obtain ⟨A2, c2, rfl, I2⟩ := fin2
    have HI := Lib.hid (And.intro I1 I2)
    clear hv2 hb2 I1 I2 HC
    go_wp2_with fail
    refine (same19 n c1 c2 A1 A2 g _ HI.out.1 HI.out.2 (by omega)).mono ?_
    rintro r w3 ⟨rfl, hb3⟩
    have hg3 := chain (w := w) (by go_grown) hb3
    clear hb3
    go_wp2
    go_ret
    exact ⟨rfl, by go_grown⟩
end Go.Proofs.Ytafeblmddhlcaaa
