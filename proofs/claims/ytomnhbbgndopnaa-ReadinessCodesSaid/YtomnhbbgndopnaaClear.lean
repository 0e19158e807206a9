/-
  The contracts of both Clear. No condition but the slice's shape.
-/
import Derived.Test.YtomnhbbgndopnaaCode2
import Derived.Deep.AppendLies
set_option linter.unusedVariables false
namespace Go.Proofs.Ytomnhbbgndopnaa
open Go.RowKit
def crow (N M : Nat → Int) (k : Nat) : List Value := (List.range k).flatMap fun i => [.bool false, .bool false, .int .i64 (N i), .int .i64 (M i)]
theorem crow_succ (N M : Nat → Int) (k : Nat) : crow N M (k + 1) = crow N M k ++ [.bool false, .bool false, .int .i64 (N k), .int .i64 (M k)] := by
  unfold crow; rw [List.range_succ, List.flatMap_append]; simp
theorem crow_len (N M : Nat → Int) : ∀ n, (crow N M n).length = n * 4
  | 0 => rfl
  | n + 1 => by rw [crow_succ, List.length_append, crow_len N M n]; simp; omega
theorem crow_get (N M : Nat → Int) : ∀ n i, i < n → (crow N M n)[i * 4]? = some (.bool false) ∧ (crow N M n)[i * 4 + 1]? = some (.bool false) ∧ (crow N M n)[i * 4 + 2]? = some (.int .i64 (N i)) ∧ (crow N M n)[i * 4 + 3]? = some (.int .i64 (M i))
  | 0, i, h => absurd h (Nat.not_lt_zero i)
  | n + 1, i, h => by
    rw [crow_succ]
    by_cases e : i = n
    · subst e
      have hl := crow_len N M i
      refine ⟨?_, ?_, ?_, ?_⟩ <;> (rw [List.getElem?_append_right (by omega), hl])
      · simp
      · rw [show i * 4 + 1 - i * 4 = 1 by omega]; rfl
      · rw [show i * 4 + 2 - i * 4 = 2 by omega]; rfl
      · rw [show i * 4 + 3 - i * 4 = 3 by omega]; rfl
    · have hl := crow_len N M n
      obtain ⟨h0, h1, h2, h3⟩ := crow_get N M n i (by omega)
      refine ⟨?_, ?_, ?_, ?_⟩ <;> rw [List.getElem?_append_left (by omega)] <;> assumption
theorem info26 : (Try.prog.info? 26).map (fun i => (i.zero, i.size, i.bytes)) = some (some (.agg #[.bool false, .bool false, .int .i64 0, .int .i64 0]), 4, 24) := by kernel_rfl
theorem own_form {w : World} {base : Nat} {e : TypeId} {size : Nat} {v : Value} {n : Nat} {xs : List Value} (h : w.ownsRow base e size v n xs) (hn : 0 < n) :
    ∃ g cap, v = .slice (some ⟨g, 0, none⟩) n cap ∧ base ≤ g ∧ g < w.heap.size ∧ n ≤ cap ∧ cap ≤ maxLen ∧ ∀ j u, xs[j]? = some u → w.cell? ⟨g, j, none⟩ = some u := by
  rcases h.2 with ⟨_, h0⟩ | ⟨g, cap, cur, rfl, hb, hh, hnc, hm, hcur, htake⟩
  · omega
  · refine ⟨g, cap, rfl, hb, (Array.getElem?_eq_some_iff.1 hh).1, hnc, hm, fun j u hj => ?_⟩
    have := h.cells (g := g) rfl j u hj
    rw [WideShapes.add_plain] at this
    simpa using this
theorem own_rdys {w : World} {base len : Nat} {v : Value} {N M : Nat → Int} (h : w.ownsRow base 26 4 v len (crow N M len)) : ∃ A cap, v = .slice A len cap ∧ len ≤ cap ∧ Rdys w A len (fun _ => false) (fun _ => false) N M := by
  by_cases h0 : 0 < len
  · obtain ⟨b, cap, hv, _, hb, hc, _, hcell⟩ := own_form h h0
    refine ⟨_, cap, hv, hc, fun _ => ⟨b, 0, rfl, hb, fun i hi => ?_⟩⟩
    obtain ⟨e0, e1, e2, e3⟩ := crow_get N M len i hi
    simp only [Nat.zero_add]
    exact ⟨hcell _ _ e0, hcell _ _ e1, hcell _ _ e2, hcell _ _ e3⟩
  · obtain rfl : len = 0 := by omega
    rcases h.2 with ⟨hv, _⟩ | ⟨b, cap, cur, hv, _⟩
    · exact ⟨none, 0, hv, Nat.zero_le _, fun h => absurd h (Nat.lt_irrefl 0)⟩
    · exact ⟨_, cap, hv, Nat.zero_le _, fun h => absurd h (Nat.lt_irrefl 0)⟩
set_option maxHeartbeats 1000000 in
theorem clear13 (A : Option Addr) (len cap : Nat) (D R : Nat → Bool) (N M : Nat → Int) (w : World) (hs : Rdys w A len D R N M) (hlm : len ≤ 1000) :
    Calls Try.prog 13 #[.slice A len cap] w fun r w' => ∃ v, r = .returned v ∧ w'.ownsRow w.heap.size 26 4 v len (crow N M len) ∧ Below w.heap.size w w' := by
  obtain ⟨i0, hi, hz0, hz1, hz2⟩ := info_parts info26
  have HS := Lib.hid hs
  clear hs
  go_enter Try.func13, Try.ntmps13
  go_wp2_with fail
  go_loopg [3, 8] len (fun gk v i wr => ∃ k : Nat, k ≤ len ∧ len - k ≤ gk ∧ i = .int .i64 k ∧ wr.ownsRow w.heap.size 26 4 v k (crow N M k) ∧ Below w.heap.size w wr)
  case atStart => exact ⟨0, Nat.zero_le _, by omega, rfl, World.ownsRow_nil _ _ _ _, Below.refl _ _⟩
  case round =>
    obtain ⟨k, hk, hgk, rfl, hown, hbl⟩ := hrel
    by_cases hlt : k < len
    · obtain ⟨b, off, rfl, hb, hcell⟩ := HS.out (by omega)
      obtain ⟨d0, d1, d2, d3⟩ := hcell k hlt
      have hc := (bcell hbl).1
      have d0 := (hc _ _ hb).trans d0
      have d1 := (hc _ _ hb).trans d1
      have d2 := (hc _ _ hb).trans d2
      have d3 := (hc _ _ hb).trans d3
      have sz := hbl.size
      have hbz : b < wr.heap.size := by omega
      clear hcell hc
      have eS := crow_succ N M k
      obtain ⟨x, hx⟩ : ∃ x, x = N k := ⟨_, rfl⟩
      obtain ⟨y, hy⟩ : ∃ x, x = M k := ⟨_, rfl⟩
      obtain ⟨xs, hxs⟩ : ∃ xs, xs = crow N M k := ⟨_, rfl⟩
      rw [← hx] at d2 eS
      rw [← hy] at d3 eS
      rw [← hxs] at eS hown
      have ES := Lib.hid eS
      generalize D k = vd at d0
      generalize R k = vr at d1
      clear eS hx hy hxs
      have hownA := (hown.alloc (.cells #[.bool false, .bool false, .int .i64 x, .int .i64 y] 26)).alloc (.cells #[.bool false, .bool false, .int .i64 x, .int .i64 y] 26)
      go_wp2_with (at_builtin; go_loud (refine wpList_append_own _ rfl _ _ 33 rfl w.heap.size 26 i0 (.agg #[.bool false, .bool false, .int .i64 0, .int .i64 0]) 4 24 Try.underlying33 hi hz0 hz1 hz2 rfl (by decide) _ _ _ rfl hownA ⟨wr.heap.size + 1, 0, none⟩ 1 1 [.bool false, .bool false, .int .i64 x, .int .i64 y] rfl rfl ?c1 ?c2 ?c3 ?c4 ?c5 ?_))
      case c1 => exact cells_new (by simp) _ _
      case c2 => intro u hu; simp at hu; rcases hu with rfl | rfl | rfl <;> rfl
      case c3 => unfold maxLen; omega
      case c4 => omega
      case c5 => simp; omega
      · intro v' w3 hown' hgrow _
        rw [← ES.out] at hown'
        have hb3 := grown_below hownA hgrow (by simp; omega)
        have bl3 : Below w.heap.size w w3 := (show Below w.heap.size w _ from by go_grown).trans (hb3.mono (by omega))
        have R := Lib.hid (And.intro hown' bl3)
        clear hb3 hgrow hownA hown' bl3 hown hbl
        go_wp2
        go_roundg (len - (k + 1))
        case measure => omega
        case rel => exact ⟨k + 1, by omega, by omega, by go_num, R.out.1, R.out.2⟩
    · obtain rfl : k = len := by omega
      go_wp2
      go_ret
      exact ⟨_, rfl, hown, hbl⟩
set_option maxHeartbeats 1000000 in
theorem clear15 (A : Option Addr) (len cap : Nat) (D R : Nat → Bool) (N M : Nat → Int) (w : World) (hs : Rdys w A len D R N M) (hlm : len ≤ 1000) :
    Calls Try.prog 15 #[.slice A len cap] w fun r w' => ∃ v, r = .returned v ∧ w'.ownsRow w.heap.size 26 4 v len (crow N M len) ∧ Below w.heap.size w w' := by
  obtain ⟨i0, hi, hz0, hz1, hz2⟩ := info_parts info26
  have HS := Lib.hid hs
  clear hs
  go_enter Try.func15, Try.ntmps15
  go_wp2_with fail
  go_loopg [3, 4] len (fun gk v i wr => ∃ k : Nat, k ≤ len ∧ len - k ≤ gk ∧ i = .int .i64 k ∧ wr.ownsRow w.heap.size 26 4 v k (crow N M k) ∧ Below w.heap.size w wr)
  case atStart => exact ⟨0, Nat.zero_le _, by omega, rfl, World.ownsRow_nil _ _ _ _, Below.refl _ _⟩
  case round =>
    obtain ⟨k, hk, hgk, rfl, hown, hbl⟩ := hrel
    by_cases hlt : k < len
    · obtain ⟨b, off, rfl, hb, hcell⟩ := HS.out (by omega)
      obtain ⟨d0, d1, d2, d3⟩ := hcell k hlt
      have hc := (bcell hbl).1
      have d0 := (hc _ _ hb).trans d0
      have d1 := (hc _ _ hb).trans d1
      have d2 := (hc _ _ hb).trans d2
      have d3 := (hc _ _ hb).trans d3
      have sz := hbl.size
      have hbz : b < wr.heap.size := by omega
      clear hcell hc
      have eS := crow_succ N M k
      obtain ⟨x, hx⟩ : ∃ x, x = N k := ⟨_, rfl⟩
      obtain ⟨y, hy⟩ : ∃ x, x = M k := ⟨_, rfl⟩
      obtain ⟨xs, hxs⟩ : ∃ xs, xs = crow N M k := ⟨_, rfl⟩
      rw [← hx] at d2 eS
      rw [← hy] at d3 eS
      rw [← hxs] at eS hown
      have ES := Lib.hid eS
      generalize D k = vd at d0
      generalize R k = vr at d1
      clear eS hx hy hxs
      go_wp2_with fail
      refine region_K (fun W => W.cell? ⟨b, off + k * 4 + 2, none⟩ = some (.int .i64 x) ∧ W.cell? ⟨b, off + k * 4 + 3, none⟩ = some (.int .i64 y)) 12 (by kernel_rfl) ⟨d2, d3⟩ (fun hHeld => ?_)
      refine K_take' (i := 0) (v := ?_) rfl (by kernel_rfl) (by kernel_rfl) (by kernel_rfl) (by kernel_rfl) (fun _ _ _ h => h) (Or.inl ⟨by rfl, ?_⟩) hHeld ?_
      rotate_left 1
      · intro w hSw
        clear hSw
        go_simp
        all_goals with_reducible rfl
      try simp only [Act.put, List.setIfInBounds_toArray, List.set_cons_zero, List.set_cons_succ]
      refine K_take (i := 1) (v := ?_) rfl (by kernel_rfl) (by kernel_rfl) (by kernel_rfl) (by kernel_rfl) (by kernel_rfl) (fun _ _ _ h => h) (Or.inl ⟨by rfl, ?_⟩) hHeld ?_
      rotate_left 1
      · intro w hSw
        (try dsimp only at hSw)
        go_simp
        all_goals with_reducible rfl
      try simp only [Act.put, List.setIfInBounds_toArray, List.set_cons_zero, List.set_cons_succ]
      refine K_take (i := 2) (v := ?_) rfl (by kernel_rfl) (by kernel_rfl) (by kernel_rfl) (by kernel_rfl) (by kernel_rfl) (fun _ _ _ h => h) (Or.inl ⟨by rfl, ?_⟩) hHeld ?_
      rotate_left 1
      · intro w hSw
        (try dsimp only at hSw)
        go_simp
        all_goals with_reducible rfl
      try simp only [Act.put, List.setIfInBounds_toArray, List.set_cons_zero, List.set_cons_succ]
      refine K_take (i := 3) (v := ?_) rfl (by kernel_rfl) (by kernel_rfl) (by kernel_rfl) (by kernel_rfl) (by kernel_rfl) (fun _ _ _ h => h) (Or.inl ⟨by rfl, ?_⟩) hHeld ?_
      rotate_left 1
      · intro w hSw
        (try dsimp only at hSw)
        go_simp
        all_goals with_reducible rfl
      try simp only [Act.put, List.setIfInBounds_toArray, List.set_cons_zero, List.set_cons_succ]
      refine K_take (i := 4) (v := ?_) rfl (by kernel_rfl) (by kernel_rfl) (by kernel_rfl) (by kernel_rfl) (by kernel_rfl) (fun _ _ _ h => h) (Or.inl ⟨by rfl, ?_⟩) hHeld ?_
      rotate_left 1
      · intro w hSw
        (try dsimp only at hSw)
        go_simp
        all_goals with_reducible rfl
      try simp only [Act.put, List.setIfInBounds_toArray, List.set_cons_zero, List.set_cons_succ]
      refine K_take (i := 5) (v := ?_) rfl (by kernel_rfl) (by kernel_rfl) (by kernel_rfl) (by kernel_rfl) (by kernel_rfl) (fun _ _ _ h => h) (Or.inl ⟨by rfl, ?_⟩) hHeld ?_
      rotate_left 1
      · intro w hSw
        (try dsimp only at hSw)
        go_simp
        all_goals with_reducible rfl
      try simp only [Act.put, List.setIfInBounds_toArray, List.set_cons_zero, List.set_cons_succ]
      refine K_take (i := 6) (v := ?_) rfl (by kernel_rfl) (by kernel_rfl) (by kernel_rfl) (by kernel_rfl) (by kernel_rfl) (fun _ _ _ h => h) (Or.inl ⟨by rfl, ?_⟩) hHeld ?_
      rotate_left 1
      · intro w hSw
        (try dsimp only at hSw)
        go_simp
        all_goals with_reducible rfl
      try simp only [Act.put, List.setIfInBounds_toArray, List.set_cons_zero, List.set_cons_succ]
      refine K_take (i := 7) (v := ?_) rfl (by kernel_rfl) (by kernel_rfl) (by kernel_rfl) (by kernel_rfl) (by kernel_rfl) (fun _ _ _ h => h) (Or.inl ⟨by rfl, ?_⟩) hHeld ?_
      rotate_left 1
      · intro w hSw
        (try dsimp only at hSw)
        go_simp
        all_goals with_reducible rfl
      try simp only [Act.put, List.setIfInBounds_toArray, List.set_cons_zero, List.set_cons_succ]
      refine K_take (i := 8) (v := ?_) rfl (by kernel_rfl) (by kernel_rfl) (by kernel_rfl) (by kernel_rfl) (by kernel_rfl) (fun _ _ _ h => h) (Or.inl ⟨by rfl, ?_⟩) hHeld ?_
      rotate_left 1
      · intro w hSw
        (try dsimp only at hSw)
        go_simp
        all_goals with_reducible rfl
      try simp only [Act.put, List.setIfInBounds_toArray, List.set_cons_zero, List.set_cons_succ]
      refine K_take (i := 9) (v := ?_) rfl (by kernel_rfl) (by kernel_rfl) (by kernel_rfl) (by kernel_rfl) (by kernel_rfl) (fun _ _ _ h => h) (Or.inl ⟨by rfl, ?_⟩) hHeld ?_
      rotate_left 1
      · intro w hSw
        (try dsimp only at hSw)
        go_simp
        all_goals with_reducible rfl
      try simp only [Act.put, List.setIfInBounds_toArray, List.set_cons_zero, List.set_cons_succ]
      refine K_take (i := 10) (v := ?_) rfl (by kernel_rfl) (by kernel_rfl) (by kernel_rfl) (by kernel_rfl) (by kernel_rfl) (fun _ _ _ h => h) (Or.inl ⟨by rfl, ?_⟩) hHeld ?_
      rotate_left 1
      · intro w hSw
        (try dsimp only at hSw)
        go_simp
        all_goals with_reducible rfl
      try simp only [Act.put, List.setIfInBounds_toArray, List.set_cons_zero, List.set_cons_succ]
      refine K_take (i := 11) (v := ?_) rfl (by kernel_rfl) (by kernel_rfl) (by kernel_rfl) (by kernel_rfl) (by kernel_rfl) (fun _ _ _ h => h) (Or.inl ⟨by rfl, ?_⟩) hHeld ?_
      rotate_left 1
      · intro w hSw
        (try dsimp only at hSw)
        go_simp
        all_goals with_reducible rfl
      try simp only [Act.put, List.setIfInBounds_toArray, List.set_cons_zero, List.set_cons_succ]
      refine K_step (by kernel_rfl) (by kernel_rfl) rfl (fun K hK => ?_)
      go_simp
      clear hHeld
      refine hK.out _ _ ?_
      clear hK K
      try simp only [Act.put, List.setIfInBounds_toArray, List.set_cons_zero, List.set_cons_succ]
      have hownA := (hown.alloc (.cells #[.bool false, .bool false, .int .i64 x, .int .i64 y] 26)).drew
      refine wpAny_ready (rs := [13]) (by kernel_rfl) (by simp) (AllReady.cons rfl (fun K hK => ?_) AllReady.nil)
      refine step_append_lies _ (by rfl) (.tmp 11) (.tmp 23) 33 (by rfl) w.heap.size 26 i0 (.agg #[.bool false, .bool false, .int .i64 0, .int .i64 0]) 4 24 Try.underlying33 hi hz0 hz1 hz2 rfl (by decide) _ _ _ (by rfl) hownA ⟨wr.heap.size, 0, none⟩ 1 1 [.bool false, .bool false, .int .i64 x, .int .i64 y] (by rfl) rfl ?_ ?_ (by omega) ?_ ?_ ?_ _ rfl ?_
      · exact fun j u h => cells_new rfl _ _ j u h
      · intro u hu; simp at hu; rcases hu with rfl | rfl | rfl <;> rfl
      · unfold maxLen; omega
      · omega
      · simp; omega
      · intro g cap' w3 hown' hgrow _ _
        refine hK _ _ ?_
        clear hK K
        try simp only [Act.put, List.setIfInBounds_toArray, List.set_cons_zero, List.set_cons_succ]
        refine wpAny_take (i := 14) (v := ?_) rfl (by kernel_rfl) (by kernel_rfl) (by kernel_rfl) (fun _ _ _ h => h) (Or.inl ⟨by rfl, ?_⟩) ?_
        rotate_left 1
        · intro w
          go_simp
          all_goals with_reducible rfl
        try simp only [Act.put, List.setIfInBounds_toArray, List.set_cons_zero, List.set_cons_succ]
        refine wpAny_done (by kernel_rfl) ?_ _
        rw [← ES.out] at hown'
        have hb3 := grown_below hownA hgrow (by simp; omega)
        have bl3 : Below w.heap.size w w3 := (show Below w.heap.size w _ from by go_grown).trans (hb3.mono (by omega))
        have R := Lib.hid (And.intro hown' bl3)
        clear hb3 hgrow hownA hown' bl3 hown hbl
        go_wp2
        go_roundg (len - (k + 1))
        case measure => omega
        case rel => exact ⟨k + 1, by omega, by omega, by go_num, R.out.1, R.out.2⟩
    · obtain rfl : k = len := by omega
      go_wp2
      go_ret
      exact ⟨_, rfl, hown, hbl⟩
end Go.Proofs.Ytomnhbbgndopnaa
