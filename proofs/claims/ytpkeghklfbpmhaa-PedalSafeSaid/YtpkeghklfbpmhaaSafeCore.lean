/-
  The core of the law PedalSafe. No condition.
-/
import Derived.Test.YtpkeghklfbpmhaaSafeLaw
import Derived.Deep.LoopGhost
import Derived.Deep.DeepCutAuto
import Derived.RegionTactic
set_option linter.unusedVariables false
namespace Go.Proofs.Ytpkeghklfbpmhaa
open Go.RowKit
theorem clamp_cases (x l h : Int) (hlh : l ≤ h) : (x < l ∧ clamp x l h = l) ∨ (l ≤ x ∧ x ≤ h ∧ clamp x l h = x) ∨ (h < x ∧ clamp x l h = h) := by unfold clamp; omega
theorem chain' {B : Nat} {a b c : World} (h : Below B a b) (k : Below b.heap.size b c) (hB : B ≤ b.heap.size := by omega) : Below B a c := h.trans (k.mono hB)
theorem hidF {F : Bool} {D' S : Int} (h : D' = S) (e : F = (D' == 3)) : Hid (F = (S == 3)) := by subst h; exact e
set_option maxRecDepth 100000 in
set_option maxHeartbeats 2000000 in
theorem safe4 (A : Option Addr) (len cap : Nat) (f g : Nat → Int) (w : World) (hs : Pairs w A len f g) (hl : len ≤ 9223372036854775807) :
    Calls Try.prog 4 #[.slice A len cap] w fun e w' => e = .returned (.bool true) ∧ Below w.heap.size w w' := by
  have HS := Lib.hid hs
  clear hs
  go_enter Try.func4, Try.ntmps4
  go_wp2_with fail
  refine (awake6 _).mono ?_
  rintro r w1 ⟨rfl, hb1⟩
  have hg1 := chain (w := w) (by go_grown) hb1
  clear hb1
  by_cases hbig : 100 < len
  · go_wp2
    go_ret
    exact ⟨rfl, hg1⟩
  go_wp2_with fail
  refine (run12 A len cap f g _ ?_ (by omega)).mono ?_
  · intro h0
    obtain ⟨b, off, hA, hb, hc⟩ := HS.out h0
    have := hg1.size
    exact ⟨b, off, hA, by omega, fun i hi => ⟨((bcell hg1).1 _ _ hb).trans (hc i hi).1, ((bcell hg1).1 _ _ hb).trans (hc i hi).2⟩⟩
  rintro r w2 ⟨v, rfl, hown, hb2⟩
  have hg2 := chain hg1 hb2
  obtain ⟨A1, c1, rfl, hc1, hst⟩ := own_states hown
  have HT := Lib.hid hst
  have z12 := hg2.size
  clear hst hown hb2 hg1
  go_wp2_with fail
  go_loopg [5, 6, 7, 34] len (fun gk v5 v6 v7 v34 wr => ∃ (k : Nat) (row : Int) (F : Bool), k ≤ len ∧ len - k ≤ gk ∧ v34 = .int .i64 k ∧ v5 = .int .i64 row ∧ v6 = .bool F ∧ v7 = .int .i64 (sV f g k) ∧ Below w2.heap.size w2 wr ∧ Hid (F = (sD f g k == 3)) ∧ (F = false → row = sD f g k) ∧ 0 ≤ row ∧ row ≤ k)
  case atStart => exact ⟨0, 0, false, Nat.zero_le _, by omega, rfl, rfl, rfl, rfl, Below.refl _ _, rfl, fun _ => rfl, by omega, by omega⟩
  case round =>
    obtain ⟨k, row, F, hk, hgk, rfl, rfl, rfl, rfl, hbl, hF, hrow, hr0, hr1⟩ := hrel
    by_cases hlt : k < len
    · obtain ⟨b, off, rfl, hb, hcell⟩ := HS.out (by omega)
      obtain ⟨b2, rfl, hb2, hcell2⟩ := HT.out (by omega)
      obtain ⟨d0, d1⟩ := hcell k hlt
      obtain ⟨s0, s1, s2⟩ := hcell2 k hlt
      have d0 := ((below_cell hbl).1 _ _ (by omega)).trans (((bcell hg2).1 _ _ hb).trans d0)
      have d1 := ((below_cell hbl).1 _ _ (by omega)).trans (((bcell hg2).1 _ _ hb).trans d1)
      have s0 := ((below_cell hbl).1 _ _ (by omega)).trans s0
      have s1 := ((below_cell hbl).1 _ _ (by omega)).trans s1
      have s2 := ((below_cell hbl).1 _ _ (by omega)).trans s2
      have hv := valid_st f g k
      have W0 := went (sV f g k) (sD f g k) (f k) (g k) hv
      rw [← sV_succ, ← sD_succ] at W0
      have hbw : b < wr.heap.size := by have := hbl.size; omega
      have hbw2 : b2 < wr.heap.size := by have := hbl.size; omega
      have hzr : w2.heap.size ≤ wr.heap.size := hbl.size
      clear hv hcell hcell2
      obtain ⟨x, hx⟩ : ∃ x, x = f k := ⟨_, rfl⟩
      obtain ⟨y, hy⟩ : ∃ y, y = g k := ⟨_, rfl⟩
      obtain ⟨V, hV⟩ : ∃ V, V = sV f g k := ⟨_, rfl⟩
      obtain ⟨D, hD⟩ : ∃ D, D = sD f g k := ⟨_, rfl⟩
      obtain ⟨V', hV'⟩ : ∃ V, V = sV f g (k + 1) := ⟨_, rfl⟩
      obtain ⟨D', hD'⟩ : ∃ D, D = sD f g (k + 1) := ⟨_, rfl⟩
      obtain ⟨F', hF'⟩ : ∃ F, F = (D' == 3) := ⟨_, rfl⟩
      rw [← hx] at d0 W0
      rw [← hy] at d1 W0
      rw [← hV] at W0 ⊢
      rw [← hD] at hF hrow W0
      rw [← hV'] at s0 W0
      rw [← hD'] at s1 s2 W0
      rw [← hF'] at s2
      have cx := clamp_cases x 0 1000 (by omega)
      have cy := clamp_cases y 0 500 (by omega)
      obtain ⟨a, ha⟩ : ∃ a, a = clamp x 0 1000 := ⟨_, rfl⟩
      obtain ⟨c, hc⟩ : ∃ c, c = clamp y 0 500 := ⟨_, rfl⟩
      rw [← ha] at cx W0
      rw [← hc] at cy W0
      have EQ := Lib.hid (And.intro hV' hD')
      have W1 := Lib.hid W0
      have HF' := Lib.hid hF'
      have HR := Lib.hid hrow
      clear ha hc hx hy hV hD hV' hD' hF' W0 hrow
      go_upto_region 12 with fail
      go_cut [10, 11] (fun v10 v11 wc => v10 = .int .i64 a ∧ v11 = .int .i64 (2 * c) ∧ Below wr.heap.size wr wc)
      case first =>
        clear W1 HR HF' EQ HT HS hF
        rcases cx with ⟨x1, rfl⟩ | ⟨x1, x2, rfl⟩ | ⟨x1, rfl⟩ <;> rcases cy with ⟨y1, rfl⟩ | ⟨y1, y2, rfl⟩ | ⟨y1, rfl⟩
        all_goals
          go_region
        all_goals
          go_wp2_with fail
          go_meet
          refine ⟨?_, ?_, ?_⟩
          · first | rfl | simp
          · first | rfl | simp
          · go_grown
      case rest =>
        obtain ⟨rfl, rfl, hbc⟩ := hcut
        have s0 := ((bcell hbc).1 _ _ hbw2).trans s0
        have s1 := ((bcell hbc).1 _ _ hbw2).trans s1
        have s2 := ((bcell hbc).1 _ _ hbw2).trans s2
        have hbl := chain' hbl hbc
        have hzc : w2.heap.size ≤ wc.heap.size := hbl.size
        have hbw2 : b2 < wc.heap.size := by omega
        obtain ⟨hV0, hV1, hV2, hV3, hD0, hD1, ha0, ha1, hb0, hb1, W2⟩ := W1.out
        clear cx cy d0 d1 HT HS W1
        rcases W2 with ⟨hdif, hva, hvb, ⟨rfl, rfl, h5⟩ | ⟨rfl, rfl, h5⟩ | ⟨h3, rfl, h5⟩⟩ | ⟨hd1, hd2, ⟨rfl, rfl, h5⟩ | ⟨h3, rfl, rfl⟩⟩
        · obtain rfl : F' = true := HF'.out
          obtain rfl : F = true := hF
          clear HF' HR
          rcases hdif with hdif | hdif
          all_goals
            go_wp2_with fail
            go_roundg (len - (k + 1))
            case measure => omega
            case rel => exact ⟨k + 1, _, _, by omega, by omega, by go_num, rfl, rfl, congrArg _ EQ.out.1, by go_grown, hidF EQ.out.2 (by first | rfl | (simp; omega) | simp), (fun h => by cases h), by omega, by omega⟩
        · obtain rfl : F' = true := HF'.out
          obtain rfl : F = false := hF
          have hrw := HR.out rfl
          clear HF' HR
          rcases hdif with hdif | hdif
          all_goals
            go_wp2_with fail
            go_roundg (len - (k + 1))
            case measure => omega
            case rel => exact ⟨k + 1, _, _, by omega, by omega, by go_num, rfl, rfl, congrArg _ EQ.out.1, by go_grown, hidF EQ.out.2 (by first | rfl | (simp; omega) | simp), (fun h => by cases h), by omega, by omega⟩
        · obtain rfl : F' = false := by rw [HF'.out]; simp; omega
          obtain rfl : F = false := by rw [hF.out]; simp; omega
          have hrw := HR.out rfl
          clear HF' HR
          rcases hdif with hdif | hdif
          all_goals
            go_wp2_with fail
            go_roundg (len - (k + 1))
            case measure => omega
            case rel => exact ⟨k + 1, _, _, by omega, by omega, by go_num, rfl, rfl, congrArg _ EQ.out.1, by go_grown, hidF EQ.out.2 (by first | rfl | (simp; omega) | simp), (fun _ => by rw [← EQ.out.2]; try omega), by omega, by omega⟩
        · obtain rfl : F' = true := HF'.out
          obtain rfl : F = true := hF
          clear HF' HR
          all_goals
            go_wp2_with fail
            go_roundg (len - (k + 1))
            case measure => omega
            case rel => exact ⟨k + 1, _, _, by omega, by omega, by go_num, rfl, rfl, congrArg _ EQ.out.1, by go_grown, hidF EQ.out.2 (by first | rfl | (simp; omega) | simp), (fun h => by cases h), by omega, by omega⟩
        · obtain rfl : F' = false := HF'.out
          obtain rfl : F = false := by rw [hF.out]; simp; omega
          have hrw := HR.out rfl
          clear HF' HR
          all_goals
            go_wp2_with fail
            go_roundg (len - (k + 1))
            case measure => omega
            case rel => exact ⟨k + 1, _, _, by omega, by omega, by go_num, rfl, rfl, congrArg _ EQ.out.1, by go_grown, hidF EQ.out.2 (by first | rfl | (simp; omega) | simp), (fun _ => by rw [← EQ.out.2]), by omega, by omega⟩
    · obtain rfl : k = len := by omega
      go_wp2
      go_ret
      exact ⟨rfl, hg2.trans (hbl.mono (by omega))⟩
end Go.Proofs.Ytpkeghklfbpmhaa
