/-
  The core of the law IdleRest: what its body answers for opened arguments. No condition but the slice's shape.
-/
import Derived.Test.YtafeblmddhlcaaaRest
import Derived.Deep.DeepCutAuto
import Derived.Deep.RegionHeld3
set_option linter.unusedVariables false
namespace Go.Proofs.Ytafeblmddhlcaaa
open Go.RowKit
def Gs (b : Nat) (P I L H : Int) (w W : World) : Prop :=
  W.cell? ⟨b, 0, none⟩ = some (.int .i64 P) ∧ W.cell? ⟨b, 1, none⟩ = some (.int .i64 I) ∧ W.cell? ⟨b, 2, none⟩ = some (.int .i64 L) ∧ W.cell? ⟨b, 3, none⟩ = some (.int .i64 H) ∧ b < W.heap.size ∧ Below w.heap.size w W
theorem Gs.below {b : Nat} {P I L H : Int} {w W W2 : World} (h : Gs b P I L H w W) (hb : Below W.heap.size W W2) : Gs b P I L H w W2 := by
  obtain ⟨h0, h1, h2, h3, h4, h5⟩ := h
  obtain ⟨hc, _⟩ := bcell hb
  have := hb.size
  exact ⟨(hc _ _ h4).trans h0, (hc _ _ h4).trans h1, (hc _ _ h4).trans h2, (hc _ _ h4).trans h3, by omega, chain h5 hb⟩
theorem run17_ok (P I L H t : Int) (A : Option Addr) (k n cap : Nat) (f : Nat → Int) (w : World) (hs : Ints .i64 w A k f) (hl : k ≤ 9223372036854775807) (hE : runE P I L H t f n = 0) (hk : k ≤ n) :
    Calls Try.prog 17 #[.agg #[.int .i64 P, .int .i64 I, .int .i64 L, .int .i64 H], .int .i64 t, .slice A k cap] w fun r w' => ∃ A1 c1, r = .returned (.tuple #[.slice A1 k c1, .int .i64 0]) ∧ k ≤ c1 ∧ Ints .i64 w' A1 k (rnU P I L H t f) ∧ Below w.heap.size w w' := by
  refine (run17 P I L H t A k cap f w hs hl).mono ?_
  rintro r w2 ⟨v, rfl, hv, hb2⟩
  have h0 := runE_zero hE hk
  rcases hv with ⟨_, hown⟩ | ⟨h1, _⟩
  · obtain ⟨A1, c1, rfl, hc1, hi1⟩ := own_ints hown
    exact ⟨A1, c1, by rw [h0], hc1, hi1, hb2⟩
  · exact absurd h0 h1
theorem Gs.bl {b : Nat} {P I L H : Int} {w W : World} (h : Gs b P I L H w W) : Below w.heap.size w W := h.2.2.2.2.2
set_option maxHeartbeats 1000000 in
theorem rest7 (P I L H t : Int) (A : Option Addr) (len cap : Nat) (f : Nat → Int) (b : Int) (h0 : 0 ≤ b) (h1 : b ≤ 255) (w : World) (hs : Ints .i64 w A len f) (hc : len ≤ cap) (hl : cap ≤ 9223372036854775807) :
    Calls Try.prog 7 #[.agg #[.int .i64 P, .int .i64 I, .int .i64 L, .int .i64 H], .int .i64 t, .slice A len cap, .int .u8 b] w fun r w' => r = .returned (.bool true) ∧ Below w.heap.size w w' := by
  have HS := Lib.hid hs
  clear hs
  have A17 := Lib.hid (fun w0 k h hk => run17 P I L H t A k cap f w0 h hk)
  have A15 := fun w => step15 P I L H 0 t t w
  have RL := @rest_law P I L H t
  generalize stE P I L H 0 t t = e at A15 RL
  generalize stS P I L H 0 t t = s at A15 RL
  generalize stU P I L H 0 t t = u at A15 RL
  have A15 := Lib.hid A15
  go_enter Try.func7, Try.ntmps7
  go_wp2_with fail
  refine (awake8 _).mono ?_
  rintro r w0 ⟨rfl, rfl⟩
  by_cases hbig : 100 < len
  · go_wp2
    go_ret
    exact ⟨rfl, by go_grown⟩
  go_upto_if 47 with fail
  refine (A15.out _).mono ?_
  rintro r w1 ⟨rfl, hb1⟩
  have hg1 := chain (w := w) (by go_grown) hb1
  have hc1 := (bcell hb1).1
  have sz1 := hb1.size
  simp at sz1
  have q1 : w1.cell? ⟨w.heap.size, 0, none⟩ = some (.int .i64 P) := (hc1 _ _ (by simp)).trans (by go_cell)
  have q2 : w1.cell? ⟨w.heap.size, 1, none⟩ = some (.int .i64 I) := (hc1 _ _ (by simp)).trans (by go_cell)
  have q3 : w1.cell? ⟨w.heap.size, 2, none⟩ = some (.int .i64 L) := (hc1 _ _ (by simp)).trans (by go_cell)
  have q4 : w1.cell? ⟨w.heap.size, 3, none⟩ = some (.int .i64 H) := (hc1 _ _ (by simp)).trans (by go_cell)
  have hz1 : w.heap.size < w1.heap.size := by omega
  have G1 : Gs w.heap.size P I L H w w1 := ⟨q1, q2, q3, q4, hz1, hg1⟩
  clear hc1 hb1 A15
  go_upto_region 6 with fail
  go_cut [47] from 31 (fun v wc => v = .bool false ∧ Gs w.heap.size P I L H w wc)
  case first =>
    by_cases he : e = 0
    · obtain ⟨rfl, rfl⟩ := RL he
      subst he
      clear RL
      have G2 := Lib.hid (G1.below ((Below.refl _ _).alloc (Nat.le_refl _) (.cells #[.int .i64 0] 32)))
      go_wp2_with fail
      all_goals
        go_meet
        refine ⟨?_, G2.out⟩
        first | rfl | (refine congrArg Value.bool ?_; simp; omega)
    · clear RL
      have G2 := Lib.hid (G1.below ((Below.refl _ _).alloc (Nat.le_refl _) (.cells #[.int .i64 s] 32)))
      have he' : (e == 0) = false := by simp [he]
      go_wp2_with fail
      go_meet
      exact ⟨rfl, G2.out⟩
  case rest =>
    obtain ⟨rfl, G⟩ := hcut
    have hg2 := G.2.2.2.2.2
    obtain ⟨q1, q2, q3, q4, z1, _⟩ := id G
    clear RL
    go_wp2_with fail
    refine (A17.out _ len (ints_below HS.out hg2) (by omega)).mono ?_
    rintro r w2 ⟨v, rfl, hv, hb2⟩
    have G2 := G.below hb2
    have hg2 := G2.2.2.2.2.2
    rcases hv with ⟨hE, hown⟩ | ⟨hE, rfl⟩
    · obtain ⟨A1, c1, rfl, hc1, hi1⟩ := own_ints hown
      have sz1 := hb2.size
      obtain ⟨q1, q2, q3, q4, z2, _⟩ := id G2
      have i0 := ints_below HS.out hg2
      have HI := Lib.hid (And.intro hg2 (And.intro i0 hi1))
      have GH := Lib.hid G2
      have m0 := Int.emod_nonneg b (show (len : Int) + 1 ≠ 0 by omega)
      have m1 := Int.emod_lt_of_pos b (show (0 : Int) < (len : Int) + 1 by omega)
      obtain ⟨k, hk⟩ : ∃ k : Nat, (k : Int) = b % (len + 1) := ⟨(b % (len + 1)).toNat, by omega⟩
      have hkl : k ≤ len := by omega
      rw [hE]
      have HE := Lib.hid hE
      clear hi1 hown hb2 i0 hg2 hE G2
      go_wp2_with fail
      rw [← hk]
      have HK := Lib.hid hk
      clear hk
      have hk0 : (0 : Int) ≤ (k : Int) := by omega
      have hkc : (k : Int) ≤ (cap : Int) := by omega
      have hkc1 : (k : Int) ≤ (c1 : Int) := by omega
      have A17k := Lib.hid (fun W hW => run17_ok P I L H t A k len cap f W hW (by omega) HE.out hkl)
      clear A17 HE
      go_region_held3 (fun W => W.cell? ⟨w.heap.size, 0, none⟩ = some (.int .i64 P) ∧ W.cell? ⟨w.heap.size, 1, none⟩ = some (.int .i64 I) ∧ W.cell? ⟨w.heap.size, 2, none⟩ = some (.int .i64 L) ∧ W.cell? ⟨w.heap.size, 3, none⟩ = some (.int .i64 H) ∧ w.heap.size < W.heap.size ∧ Below w.heap.size w W)
        (first | exact Gs.below GH.out (Below.refl _ _).drew | (refine Gs.below (W := w2.drew) ?_ hb3; assumption))
        (first | (go_at_call 17; refine (A17k.out _ (ints_take (ints_below HS.out (Gs.bl (b := w.heap.size) (P := P) (I := I) (L := L) (H := H) ?_)) hkl)).mono ?_; assumption; rintro r w3 ⟨A2, c2, rfl, hc2, hi2, hb3⟩))
      rename_i hh
      have hg3 := Gs.bl hh
      have hj := ints_take (ints_below HI.out.2.2 (chain (w := w2) ((Below.refl _ _).drew) hb3)) hkl
      have S19 := Lib.hid (same19 k c2 c1 A2 A1 (rnU P I L H t f) w3 hi2 hj (by omega))
      clear hh hi2 hj hb3 GH HI A17k HK
      go_wp2_with fail
      refine S19.out.mono ?_
      rintro r w4 ⟨rfl, hb4⟩
      have hg4 := chain hg3 hb4
      go_wp2_with fail
      go_ret
      exact ⟨rfl, hg4⟩
    · clear hb2
      have hb : (runE P I L H t f len != 0) = true := by simp [hE]
      go_wp2_with fail
      go_ret
      exact ⟨rfl, hg2⟩
end Go.Proofs.Ytafeblmddhlcaaa
