/-
  The contract of the reference's Copy. No condition but the slice's shape.
-/
import Derived.Test.YtemfjikiopcgpaaAwake
import Derived.Test.YtemfjikiopcgpaaHeld2
set_option linter.unusedVariables false
set_option linter.unusedSimpArgs false
namespace Go.Proofs.Ytemfjikiopcgpaa
open Go.RowKit
set_option maxHeartbeats 2000000 in
theorem copy34 (a r : Bool) (F W : Int) (A : Option Addr) (cap : Nat) (f g : Nat → Int) (w : World) (hs : Cls w A 9 f g) :
    Calls Try.prog 34 #[.agg #[.bool a, .bool r, .int .i64 F, .int .i64 W, .slice A 9 cap]] w (PrPost a r F W f g w) := by
  obtain ⟨i0, hi, hz0, hz1, hz2⟩ := info_parts info52
  have HS := Lib.hid hs
  clear hs
  go_enter Try.func34, Try.ntmps34
  go_wp2_with fail
  go_loopg [4] 9 (fun gk ix wr => ∃ (k : Nat) (v : Value), k ≤ 9 ∧ 9 - k ≤ gk ∧ ix = .int .i64 k ∧ wr.ownsRow (w.heap.size + 2) 52 2 v k (crow f g k) ∧ wr.cell? ⟨w.heap.size, 0, none⟩ = some (.bool a) ∧ wr.cell? ⟨w.heap.size, 1, none⟩ = some (.bool r) ∧ wr.cell? ⟨w.heap.size, 2, none⟩ = some (.int .i64 F) ∧ wr.cell? ⟨w.heap.size, 3, none⟩ = some (.int .i64 W) ∧ wr.cell? ⟨w.heap.size, 4, none⟩ = some v ∧
      wr.frozen? ⟨w.heap.size, 4, none⟩ = false ∧ PV (w.heap.size + 1) wr false false 0 0 none 0 0 ∧ Below w.heap.size w wr)
  case atStart =>
    refine ⟨0, .slice none 0 0, by omega, by omega, rfl, World.ownsRow_nil _ _ _ _, ?_, ?_, ?_, ?_, ?_, ?_, ?_, by go_grown⟩
    · go_cell
    · go_cell
    · go_cell
    · go_cell
    · go_cell
    · simp [go_sem]
    · exact PV.new (by simp) _ _ _ _ _ _ _
  case round =>
    obtain ⟨k, v, hk, hgk, rfl, hown, p0, p1, p2, p3, p4, e4, hQ, hbl⟩ := hrel
    by_cases hlt : k < 9
    · obtain ⟨b, off, rfl, hb_, hcell⟩ := HS.out (by omega)
      obtain ⟨d0, d1⟩ := hcell k hlt
      replace d0 := ((bcell hbl).1 _ _ hb_).trans d0
      replace d1 := ((bcell hbl).1 _ _ hb_).trans d1
      clear hcell
      have eS := crow_succ f g k
      obtain ⟨x, hx⟩ : ∃ x, x = f k := ⟨_, rfl⟩
      obtain ⟨y, hy⟩ : ∃ x, x = g k := ⟨_, rfl⟩
      obtain ⟨xs, hxs⟩ : ∃ xs, xs = crow f g k := ⟨_, rfl⟩
      rw [← hx] at d0 eS
      rw [← hy] at d1 eS
      rw [← hxs] at eS hown
      have ES := Lib.hid eS
      have HQ := Lib.hid hQ
      clear eS hx hy hxs hQ
      have hk0 : (0 : Int) ≤ (k : Int) := by omega
      have hk9 : (k : Int) < 9 := by omega
      go_wp2_with fail
      refine region_K (fun W' => W'.cell? ⟨w.heap.size, 0, none⟩ = some (.bool a) ∧ W'.cell? ⟨w.heap.size, 1, none⟩ = some (.bool r) ∧ W'.cell? ⟨w.heap.size, 2, none⟩ = some (.int .i64 F) ∧ W'.cell? ⟨w.heap.size, 3, none⟩ = some (.int .i64 W) ∧ W'.cell? ⟨w.heap.size, 4, none⟩ = some v ∧ W'.cell? ⟨b, off + k * 2, none⟩ = some (.int .i64 x) ∧ W'.cell? ⟨b, off + k * 2 + 1, none⟩ = some (.int .i64 y)) 7 (by kernel_rfl) ⟨p0, p1, p2, p3, p4, d0, d1⟩ (fun hHeld => ?_)
      refine K_take (i := 0) (v := ?_) rfl (by kernel_rfl) (by kernel_rfl) (by kernel_rfl) (by kernel_rfl) (by kernel_rfl) (fun _ _ _ h => h) (Or.inl ⟨by rfl, ?_⟩) hHeld ?_
      rotate_left 1
      · intro w hSw
        (try dsimp only at hSw)
        go_simp
        all_goals with_reducible rfl
      try simp only [Act.put, List.setIfInBounds_toArray, List.set_cons_zero, List.set_cons_succ]
      refine K_take (i := 1) (v := ?_) rfl (by kernel_rfl) (by kernel_rfl) (by kernel_rfl) (by kernel_rfl) (by kernel_rfl) (fun _ _ _ h => h) (Or.inl ⟨by rfl, ?_⟩) hHeld ?_
      rotate_left 1
      · intro w hSw
        (try dsimp only at hSw)
        go_simp
        all_goals with_reducible rfl
      try simp only [Act.put, List.setIfInBounds_toArray, List.set_cons_zero, List.set_cons_succ]
      refine K_take (i := 2) (v := ?_) rfl (by kernel_rfl) (by kernel_rfl) (by kernel_rfl) (by kernel_rfl) (by kernel_rfl) (fun _ _ _ h => h) (Or.inl ⟨by rfl, ?_⟩) hHeld ?_
      rotate_left 1
      · intro w hSw
        (try dsimp only at hSw)
        go_simp
        all_goals with_reducible rfl
      try simp only [Act.put, List.setIfInBounds_toArray, List.set_cons_zero, List.set_cons_succ]
      refine K_take (i := 3) (v := ?_) rfl (by kernel_rfl) (by kernel_rfl) (by kernel_rfl) (by kernel_rfl) (by kernel_rfl) (fun _ _ _ h => h) (Or.inl ⟨by rfl, ?_⟩) hHeld ?_
      rotate_left 1
      · intro w hSw
        (try dsimp only at hSw)
        go_simp
        all_goals with_reducible rfl
      try simp only [Act.put, List.setIfInBounds_toArray, List.set_cons_zero, List.set_cons_succ]
      refine K_take (i := 4) (v := ?_) rfl (by kernel_rfl) (by kernel_rfl) (by kernel_rfl) (by kernel_rfl) (by kernel_rfl) (fun _ _ _ h => h) (Or.inl ⟨by rfl, ?_⟩) hHeld ?_
      rotate_left 1
      · intro w hSw
        (try dsimp only at hSw)
        go_simp
        all_goals with_reducible rfl
      try simp only [Act.put, List.setIfInBounds_toArray, List.set_cons_zero, List.set_cons_succ]
      refine K_take (i := 5) (v := ?_) rfl (by kernel_rfl) (by kernel_rfl) (by kernel_rfl) (by kernel_rfl) (by kernel_rfl) (fun _ _ _ h => h) (Or.inl ⟨by rfl, ?_⟩) hHeld ?_
      rotate_left 1
      · intro w hSw
        (try dsimp only at hSw)
        go_simp
        all_goals with_reducible rfl
      try simp only [Act.put, List.setIfInBounds_toArray, List.set_cons_zero, List.set_cons_succ]
      refine K_step' (i := 6) (by kernel_rfl) rfl (fun K hK => ?_)
      go_simp
      refine hK.out _ _ ?_ (fun hHeld2 => ?_)
      · have hb := (Below.refl wr.drew.heap.size wr.drew).alloc (Nat.le_refl _) (.cells #[.int .i64 x, .int .i64 y] 52)
        obtain ⟨hc, _⟩ := bcell hb
        have hl1 : w.heap.size < wr.drew.heap.size := by have := HQ.out.2.2.2.2.2.2.2.2.2.2; show w.heap.size < wr.heap.size; omega
        have hl2 : b < wr.drew.heap.size := Nat.lt_trans hb_ hl1
        exact ⟨(hc _ _ hl1).trans p0, (hc _ _ hl1).trans p1, (hc _ _ hl1).trans p2, (hc _ _ hl1).trans p3, (hc _ _ hl1).trans p4, (hc _ _ hl2).trans d0, (hc _ _ hl2).trans d1⟩
      clear hK K hHeld hHeld2
      try simp only [Act.put, List.setIfInBounds_toArray, List.set_cons_zero, List.set_cons_succ]
      have hownA := (hown.alloc (.cells #[.int .i64 x, .int .i64 y] 52)).drew
      have hzr : w.heap.size + 2 ≤ wr.heap.size := by have := HQ.out.2.2.2.2.2.2.2.2.2.2; omega
      refine K_step (by kernel_rfl) (by kernel_rfl) rfl (fun K hK => ?_)
      refine step_append_lies _ (by rfl) (.tmp 15) (.tmp 20) 22 (by rfl) (w.heap.size + 2) 52 i0 (.agg #[.int .i64 0, .int .i64 0]) 2 16 Try.underlying22 hi hz0 hz1 hz2 rfl (by decide) _ _ _ (by rfl) hownA ⟨wr.heap.size, 0, none⟩ 1 1 [.int .i64 x, .int .i64 y] (by rfl) rfl ?_ ?_ (by omega) ?_ ?_ ?_ _ rfl ?_
      · exact fun j u h => cells_new rfl _ _ j u h
      · intro u hu; simp at hu; rcases hu with rfl | rfl <;> rfl
      · unfold maxLen; omega
      · omega
      · simp; omega
      · intro g' cap' w3 hown' hgrow _ _
        refine hK.out _ _ ?_
        clear hK K
        try simp only [Act.put, List.setIfInBounds_toArray, List.set_cons_zero, List.set_cons_succ]
        rw [← ES.out] at hown'
        have hb3 := grown_below hownA hgrow (by simp; omega)
        have hbA : Below (w.heap.size + 2) wr w3 := (show Below (w.heap.size + 2) wr _ from ((Below.refl _ _).alloc hzr _).drew).trans hb3
        obtain ⟨hc3, hf3⟩ := below_cell hbA
        replace p0 := (hc3 _ _ (by omega)).trans p0
        replace p1 := (hc3 _ _ (by omega)).trans p1
        replace p2 := (hc3 _ _ (by omega)).trans p2
        replace p3 := (hc3 _ _ (by omega)).trans p3
        replace p4 := (hc3 _ _ (by omega)).trans p4
        replace e4 := (hf3 _ _ (by omega)).trans e4
        have Q3 : PV (w.heap.size + 1) w3 false false 0 0 none 0 0 := by
          obtain ⟨h0, h1, h2, h3, h4, k0, k1, k2, k3, k4, hl⟩ := HQ.out
          have := hbA.size
          exact ⟨(hc3 _ _ (by omega)).trans h0, (hc3 _ _ (by omega)).trans h1, (hc3 _ _ (by omega)).trans h2, (hc3 _ _ (by omega)).trans h3, (hc3 _ _ (by omega)).trans h4, (hf3 _ _ (by omega)).trans k0, (hf3 _ _ (by omega)).trans k1, (hf3 _ _ (by omega)).trans k2, (hf3 _ _ (by omega)).trans k3, (hf3 _ _ (by omega)).trans k4, by omega⟩
        have bl3 : Below w.heap.size w w3 := hbl.trans (hbA.mono (by omega))
        have R := Lib.hid (And.intro hown' (And.intro Q3 bl3))
        clear hb3 hbA hc3 hf3 hgrow hownA hown' bl3 hown hbl Q3 HQ d0 d1
        refine wpAny_ready (rs := [8]) (by kernel_rfl) (by simp) (AllReady.cons rfl (fun K hK => ?_) AllReady.nil)
        go_simp
        refine hK _ _ ?_
        clear hK K
        try simp only [Act.put, List.setIfInBounds_toArray, List.set_cons_zero, List.set_cons_succ]
        refine wpAny_ready (rs := [9]) (by kernel_rfl) (by simp) (AllReady.cons rfl (fun K hK => ?_) AllReady.nil)
        go_simp
        refine hK _ _ ?_
        clear hK K
        try simp only [Act.put, List.setIfInBounds_toArray, List.set_cons_zero, List.set_cons_succ]
        refine wpAny_done (by kernel_rfl) ?_ _
        go_wp2_with fail
        go_roundg (9 - (k + 1))
        case measure => omega
        case rel =>
          obtain ⟨r0, r1, r2⟩ := R.out
          obtain ⟨h0, h1, h2, h3, h4, k0, k1, k2, k3, k4, hl⟩ := id r1
          refine ⟨k + 1, _, by omega, by omega, by go_num, ownsRow_setCell_below r0 (by simp) _, by go_cell, by go_cell, by go_cell, by go_cell, by go_cell, by simp [go_sem, e4], ?_, r2.setCell (by simp) _⟩
          exact ⟨by go_cell, by go_cell, by go_cell, by go_cell, by go_cell, by simp [go_sem, k0], by simp [go_sem, k1], by simp [go_sem, k2], by simp [go_sem, k3], by simp [go_sem, k4], by simpa using hl⟩
    · obtain rfl : k = 9 := by omega
      have HQ := Lib.hid hQ
      obtain ⟨q0, q1, q2, q3, q4, f0, f1, f2, f3, f4, hz⟩ := id hQ
      obtain ⟨b, c, rfl, hbb, hbl', h9, hm⟩ := own_some (B := w.heap.size + 2) hown
      have HO := Lib.hid hown
      have hz0 : w.heap.size < wr.heap.size := by omega
      clear hQ hown
      go_wp2_with fail
      refine bodyPost_ret (v := .agg #[.bool a, .bool r, .int .i64 F, .int .i64 W, .slice (some ⟨b, 0, none⟩) 9 c]) (by simp [results, Try.results34, go_sem, p0, p1, p2, p3, p4, q0, q1, q2, q3, q4, hz, hz0] <;> first | rfl | ((repeat' apply And.intro) <;> rfl)) rfl ⟨_, rfl, ?_, by go_grown⟩
      refine own_mono (base := w.heap.size + 2) ?_ (by omega)
      repeat refine ownsRow_setCell_below ?_ (by first | omega | (simp; done) | (simp; omega)) _
      exact HO.out
end Go.Proofs.Ytemfjikiopcgpaa
