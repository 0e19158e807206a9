/-
  The contract of the reference's Run. No condition.
-/
import Derived.Test.YtpkeghklfbpmhaaRun
import Derived.Test.YtpkeghklfbpmhaaRef
import Derived.Test.YtpkeghklfbpmhaaHeld
set_option linter.unusedVariables false
namespace Go.Proofs.Ytpkeghklfbpmhaa
open Go.RowKit
set_option maxHeartbeats 2000000 in
theorem run14 (A : Option Addr) (len cap : Nat) (f g : Nat → Int) (w : World) (hs : Pairs w A len f g) (hl : len ≤ 1000) :
    Calls Try.prog 14 #[.slice A len cap] w fun e w' => ∃ v, e = .returned v ∧ w'.ownsRow w.heap.size 23 3 v len (sts f g len) ∧ Below w.heap.size w w' := by
  obtain ⟨i0, hi, hz0, hz1, hz2⟩ := info_parts info23
  have HS := Lib.hid hs
  clear hs
  go_enter Try.func14, Try.ntmps14
  go_wp2_with fail
  go_loopw [4, 5] (fun v i wr => ∃ k : Nat, k ≤ len ∧ i = .int .i64 k ∧ wr.ownsRow (w.heap.size + 1) 23 3 v k (sts f g k) ∧ wr.cell? ⟨w.heap.size, 0, none⟩ = some (.int .i64 (sV f g k)) ∧ wr.cell? ⟨w.heap.size, 1, none⟩ = some (.int .i64 (sD f g k)) ∧ wr.cell? ⟨w.heap.size, 2, none⟩ = some (.bool (sD f g k == 3)) ∧
      wr.frozen? ⟨w.heap.size, 0, none⟩ = false ∧ wr.frozen? ⟨w.heap.size, 1, none⟩ = false ∧ wr.frozen? ⟨w.heap.size, 2, none⟩ = false ∧ Below w.heap.size w wr ∧ w.heap.size + 1 ≤ wr.heap.size)
    (fun _ i _ => len - (intOf i).toNat)
  case atStart =>
    refine ⟨0, Nat.zero_le _, rfl, World.ownsRow_nil _ _ _ _, ?_, ?_, ?_, ?_, ?_, ?_, ?_, ?_⟩
    · show _ = some (Value.int .i64 0); go_cell
    · show _ = some (Value.int .i64 0); go_cell
    · show _ = some (Value.bool false); go_cell
    all_goals first | (simp [go_sem]; done) | go_grown
  case round =>
    obtain ⟨k, hk, rfl, hown, c0, c1, c2, f0, f1, f2, hbl, hsz⟩ := hrel
    by_cases hlt : k < len
    · obtain ⟨b, off, rfl, hb, hcell⟩ := HS.out (by omega)
      obtain ⟨d0, d1⟩ := hcell k hlt
      have d0 := ((bcell hbl).1 _ _ hb).trans d0
      have d1 := ((bcell hbl).1 _ _ hb).trans d1
      clear hcell
      have hv := valid_st f g k
      have eV := sV_succ f g k
      have eD := sD_succ f g k
      have eS := sts_succ f g k
      obtain ⟨V, hV⟩ : ∃ V, V = sV f g k := ⟨_, rfl⟩
      obtain ⟨D, hD⟩ : ∃ D, D = sD f g k := ⟨_, rfl⟩
      obtain ⟨F, hF⟩ : ∃ F, F = (sD f g k == 3) := ⟨_, rfl⟩
      obtain ⟨V', hV'⟩ : ∃ V, V = sV f g (k + 1) := ⟨_, rfl⟩
      obtain ⟨D', hD'⟩ : ∃ D, D = sD f g (k + 1) := ⟨_, rfl⟩
      obtain ⟨F', hF'⟩ : ∃ F, F = (sD f g (k + 1) == 3) := ⟨_, rfl⟩
      obtain ⟨xs, hxs⟩ : ∃ xs, xs = sts f g k := ⟨_, rfl⟩
      rw [← hV] at c0
      rw [← hD] at c1
      rw [← hF] at c2
      rw [← hF, ← hV, ← hD] at hv
      rw [← hV, ← hD, ← hV'] at eV
      rw [← hD, ← hD'] at eD
      rw [← hF', ← hD', ← hV', ← hxs] at eS
      rw [← hD', eD] at hF'
      rw [← hxs] at hown
      have A := Lib.hid (fun w => step11 V D (f k) (g k) F w hv)
      rw [← eV, ← eD] at A
      rw [← eD] at hF'
      rw [← hF'] at A
      have ES := Lib.hid eS
      have EF := Lib.hid (And.intro hV' (And.intro hD' hF'))
      obtain ⟨x, hx⟩ : ∃ x, x = f k := ⟨_, rfl⟩
      obtain ⟨y, hy⟩ : ∃ y, y = g k := ⟨_, rfl⟩
      rw [← hx] at d0 A
      rw [← hy] at d1 A
      clear hv eV eD eS hV hD hF hV' hD' hF' hx hy hxs
      have hlz : w.heap.size < wr.heap.size := by omega
      go_wp2_with fail
      refine region_K (fun W => W.cell? ⟨w.heap.size, 0, none⟩ = some (.int .i64 V) ∧ W.cell? ⟨w.heap.size, 1, none⟩ = some (.int .i64 D) ∧ W.cell? ⟨w.heap.size, 2, none⟩ = some (.bool F) ∧ W.cell? ⟨b, off + k * 2, none⟩ = some (.int .i64 x) ∧ W.cell? ⟨b, off + k * 2 + 1, none⟩ = some (.int .i64 y)) 11 (by kernel_rfl) ⟨c0, c1, c2, d0, d1⟩ (fun hHeld => ?_)
      refine K_take (i := 0) (v := ?_) rfl (by kernel_rfl) (by kernel_rfl) (by kernel_rfl) (by kernel_rfl) (by kernel_rfl) (fun _ _ _ h => h) (Or.inl ⟨by rfl, ?_⟩) hHeld ?_
      rotate_left 1
      · intro w hSw
        (try dsimp only at hSw)
        go_simp
        all_goals with_reducible rfl
      try simp only [Act.put, List.setIfInBounds_toArray, List.set_cons_zero, List.set_cons_succ]
      refine K_take (i := 1) (v := ?_) rfl (by kernel_rfl) (by kernel_rfl) (by kernel_rfl) (by kernel_rfl) (by kernel_rfl) (fun _ _ _ h => h) (Or.inl ⟨by rfl, ?_⟩) hHeld ?_
      rotate_left 1
      · intro w hSw
        (try dsimp only at hSw)
        go_simp
        all_goals with_reducible rfl
      try simp only [Act.put, List.setIfInBounds_toArray, List.set_cons_zero, List.set_cons_succ]
      refine K_take (i := 2) (v := ?_) rfl (by kernel_rfl) (by kernel_rfl) (by kernel_rfl) (by kernel_rfl) (by kernel_rfl) (fun _ _ _ h => h) (Or.inl ⟨by rfl, ?_⟩) hHeld ?_
      rotate_left 1
      · intro w hSw
        (try dsimp only at hSw)
        go_simp
        all_goals with_reducible rfl
      try simp only [Act.put, List.setIfInBounds_toArray, List.set_cons_zero, List.set_cons_succ]
      refine K_take (i := 3) (v := ?_) rfl (by kernel_rfl) (by kernel_rfl) (by kernel_rfl) (by kernel_rfl) (by kernel_rfl) (fun _ _ _ h => h) (Or.inl ⟨by rfl, ?_⟩) hHeld ?_
      rotate_left 1
      · intro w hSw
        (try dsimp only at hSw)
        go_simp
        all_goals with_reducible rfl
      try simp only [Act.put, List.setIfInBounds_toArray, List.set_cons_zero, List.set_cons_succ]
      refine K_take (i := 4) (v := ?_) rfl (by kernel_rfl) (by kernel_rfl) (by kernel_rfl) (by kernel_rfl) (by kernel_rfl) (fun _ _ _ h => h) (Or.inl ⟨by rfl, ?_⟩) hHeld ?_
      rotate_left 1
      · intro w hSw
        (try dsimp only at hSw)
        go_simp
        all_goals with_reducible rfl
      try simp only [Act.put, List.setIfInBounds_toArray, List.set_cons_zero, List.set_cons_succ]
      refine K_take (i := 5) (v := ?_) rfl (by kernel_rfl) (by kernel_rfl) (by kernel_rfl) (by kernel_rfl) (by kernel_rfl) (fun _ _ _ h => h) (Or.inl ⟨by rfl, ?_⟩) hHeld ?_
      rotate_left 1
      · intro w hSw
        (try dsimp only at hSw)
        go_simp
        all_goals with_reducible rfl
      try simp only [Act.put, List.setIfInBounds_toArray, List.set_cons_zero, List.set_cons_succ]
      refine K_take (i := 6) (v := ?_) rfl (by kernel_rfl) (by kernel_rfl) (by kernel_rfl) (by kernel_rfl) (by kernel_rfl) (fun _ _ _ h => h) (Or.inl ⟨by rfl, ?_⟩) hHeld ?_
      rotate_left 1
      · intro w hSw
        (try dsimp only at hSw)
        go_simp
        all_goals with_reducible rfl
      try simp only [Act.put, List.setIfInBounds_toArray, List.set_cons_zero, List.set_cons_succ]
      refine K_take (i := 7) (v := ?_) rfl (by kernel_rfl) (by kernel_rfl) (by kernel_rfl) (by kernel_rfl) (by kernel_rfl) (fun _ _ _ h => h) (Or.inl ⟨by rfl, ?_⟩) hHeld ?_
      rotate_left 1
      · intro w hSw
        (try dsimp only at hSw)
        go_simp
        all_goals with_reducible rfl
      try simp only [Act.put, List.setIfInBounds_toArray, List.set_cons_zero, List.set_cons_succ]
      refine K_take (i := 8) (v := ?_) rfl (by kernel_rfl) (by kernel_rfl) (by kernel_rfl) (by kernel_rfl) (by kernel_rfl) (fun _ _ _ h => h) (Or.inl ⟨by rfl, ?_⟩) hHeld ?_
      rotate_left 1
      · intro w hSw
        (try dsimp only at hSw)
        go_simp
        all_goals with_reducible rfl
      try simp only [Act.put, List.setIfInBounds_toArray, List.set_cons_zero, List.set_cons_succ]
      refine K_take (i := 9) (v := ?_) rfl (by kernel_rfl) (by kernel_rfl) (by kernel_rfl) (by kernel_rfl) (by kernel_rfl) (fun _ _ _ h => h) (Or.inl ⟨by rfl, ?_⟩) hHeld ?_
      rotate_left 1
      · intro w hSw
        (try dsimp only at hSw)
        go_simp
        all_goals with_reducible rfl
      try simp only [Act.put, List.setIfInBounds_toArray, List.set_cons_zero, List.set_cons_succ]
      refine K_take (i := 10) (v := ?_) rfl (by kernel_rfl) (by kernel_rfl) (by kernel_rfl) (by kernel_rfl) (by kernel_rfl) (fun _ _ _ h => h) (Or.inl ⟨by rfl, ?_⟩) hHeld ?_
      rotate_left 1
      · intro w hSw
        (try dsimp only at hSw)
        go_simp
        all_goals with_reducible rfl
      try simp only [Act.put, List.setIfInBounds_toArray, List.set_cons_zero, List.set_cons_succ]
      refine K_step (by kernel_rfl) (by kernel_rfl) rfl (fun K hK => ?_)
      go_simp
      refine (A.out _).mono ?_
      rintro r w2 ⟨rfl, hb2⟩
      obtain ⟨hc2, hf2⟩ := bcell hb2
      have sz2 := hb2.size
      have zlt : w.heap.size < wr.drew.heap.size := hlz
      have e0 : w2.cell? ⟨w.heap.size, 0, none⟩ = some (.int .i64 V) := (hc2 _ _ zlt).trans c0
      have e1 : w2.cell? ⟨w.heap.size, 1, none⟩ = some (.int .i64 D) := (hc2 _ _ zlt).trans c1
      have e2 : w2.cell? ⟨w.heap.size, 2, none⟩ = some (.bool F) := (hc2 _ _ zlt).trans c2
      have g0 : w2.frozen? ⟨w.heap.size, 0, none⟩ = false := (hf2 _ _ zlt).trans f0
      have g1 : w2.frozen? ⟨w.heap.size, 1, none⟩ = false := (hf2 _ _ zlt).trans f1
      have g2 : w2.frozen? ⟨w.heap.size, 2, none⟩ = false := (hf2 _ _ zlt).trans f2
      have hz3 : w.heap.size < w2.heap.size := by simp at sz2; omega
      have hown2 := own_below (hown.drew) hb2
      have hown3 := ownsRow_setCell_below (ownsRow_setCell_below (ownsRow_setCell_below hown2 (a := ⟨w.heap.size, 0, none⟩) (by simp) (.int .i64 V')) (a := ⟨w.heap.size, 1, none⟩) (by simp) (.int .i64 D')) (a := ⟨w.heap.size, 2, none⟩) (by simp) (.bool F')
      have hbl2 : Below w.heap.size w w2 := hbl.drew.trans (hb2.mono (Nat.le_of_lt zlt))
      clear hc2 hf2 hb2 hown hown2 hHeld c0 c1 c2 f0 f1 f2 hbl A d0 d1
      refine hK.out _ _ ?_
      clear hK K
      try simp only [Act.put, List.setIfInBounds_toArray, List.set_cons_zero, List.set_cons_succ]
      refine wpAny_ready (rs := [12]) (by kernel_rfl) (by simp) (AllReady.cons rfl (fun K hK => ?_) AllReady.nil)
      go_simp
      refine hK _ _ ?_
      clear hK K
      try simp only [Act.put, List.setIfInBounds_toArray, List.set_cons_zero, List.set_cons_succ]
      refine wpAny_done (by kernel_rfl) ?_ _
      go_wp2_with (at_builtin; go_loud (refine wpList_append_own _ rfl _ _ 33 rfl (w.heap.size + 1) 23 i0 (.agg #[.int .i64 0, .int .i64 0, .bool false]) 3 24 Try.underlying33 hi hz0 hz1 hz2 rfl (by decide) _ _ _ rfl (hown3.alloc _) ⟨w2.heap.size, 0, none⟩ 1 1 [.int .i64 V', .int .i64 D', .bool F'] rfl rfl ?c1 ?c2 ?c3 ?c4 ?c5 ?_))
      case c1 => exact cells_new (by simp) _ _
      case c2 => intro u hu; simp at hu; rcases hu with rfl | rfl | rfl <;> rfl
      case c3 => unfold maxLen; omega
      case c4 => omega
      case c5 => simp; omega
      · intro v' w3 hown' hgrow _
        rw [← ES.out] at hown'
        have hb3 := grown_below (hown3.alloc _) hgrow (by simp; omega)
        obtain ⟨hc3, hf3⟩ := below_cell hb3
        have y0 : w3.cell? ⟨w.heap.size, 0, none⟩ = some (.int .i64 V') := (hc3 _ _ (by omega)).trans (by go_cell)
        have y1 : w3.cell? ⟨w.heap.size, 1, none⟩ = some (.int .i64 D') := (hc3 _ _ (by omega)).trans (by go_cell)
        have y2 : w3.cell? ⟨w.heap.size, 2, none⟩ = some (.bool F') := (hc3 _ _ (by omega)).trans (by go_cell)
        have j0 : w3.frozen? ⟨w.heap.size, 0, none⟩ = false := (hf3 _ _ (by omega)).trans (by simp [go_sem, g0, hz3])
        have j1 : w3.frozen? ⟨w.heap.size, 1, none⟩ = false := (hf3 _ _ (by omega)).trans (by simp [go_sem, g1, hz3])
        have j2 : w3.frozen? ⟨w.heap.size, 2, none⟩ = false := (hf3 _ _ (by omega)).trans (by simp [go_sem, g2, hz3])
        have bl3 : Below w.heap.size w w3 := (show Below w.heap.size w _ from by go_grown).trans (hb3.mono (by omega))
        have sz3 : w.heap.size + 1 ≤ w3.heap.size := by have := hgrow.size; simp at this; omega
        clear hb3 hc3 hf3 hgrow hown3 hbl2 e0 e1 e2 g0 g1 g2
        have R := Lib.hid (And.intro hown' (And.intro y0 (And.intro y1 (And.intro y2 (And.intro j0 (And.intro j1 (And.intro j2 (And.intro bl3 sz3))))))))
        clear hown' y0 y1 y2 j0 j1 j2 bl3 sz3
        go_wp2
        go_roundw
        case rel =>
          obtain ⟨r0, r1, r2, r3, r4, r5, r6, r7, r8⟩ := R.out
          obtain ⟨v1, v2, v3⟩ := EF.out
          rw [v1] at r1
          rw [v3, v2] at r3
          rw [v2] at r2
          exact ⟨k + 1, by omega, by go_num, r0, r1, r2, r3, r4, r5, r6, r7, r8⟩
        case measure => simp [intOf]; omega
    · obtain rfl : k = len := by omega
      go_wp2
      go_ret
      exact ⟨_, rfl, own_mono hown (by omega), hbl⟩
end Go.Proofs.Ytpkeghklfbpmhaa
