/-
  The core of the law ReadinessOnce. Conditions: the slices' shapes.
-/
import Derived.Test.YtomnhbbgndopnaaCode
import Derived.Test.YtomnhbbgndopnaaHeld
import Derived.Deep.LoopGhost
set_option linter.unusedVariables false
namespace Go.Proofs.Ytomnhbbgndopnaa.readinessOnce
open Go.RowKit
def Bools (w : World) (A : Option Addr) (len : Nat) (f : Nat → Bool) : Prop :=
  0 < len → ∃ b off, A = some ⟨b, off, none⟩ ∧ b < w.heap.size ∧ ∀ i, i < len → w.cell? ⟨b, off + i, none⟩ = some (.bool (f i))
theorem vld_small {D : Bool} {X Y : Int} (x0 : 0 ≤ X) (x1 : X ≤ 100) (y0 : 0 ≤ Y) (y1 : Y ≤ 100) : vld D false X Y = true := by
  simp only [vld, Bool.and_eq_true, decide_eq_true_eq]; exact ⟨⟨by omega, by omega, by omega, by omega⟩, by simp⟩
theorem vld_small' {R : Bool} {X Y : Int} (x0 : 0 ≤ X) (x1 : X ≤ 100) (y0 : 0 ≤ Y) (y1 : Y ≤ 100) : vld true R X Y = true := by
  simp only [vld, Bool.and_eq_true, decide_eq_true_eq]; exact ⟨⟨by omega, by omega, by omega, by omega⟩, by simp⟩
theorem step_run (D R : Bool) (X Y X' : Int) (w : World) (h : (R = false ∧ X' = X + 1) ∨ (R = true ∧ D = true ∧ X' = X)) (x0 : 0 ≤ X) (x1 : X ≤ 99) (y0 : 0 ≤ Y) (y1 : Y ≤ 100) :
    Calls Try.prog 8 #[.agg #[.bool D, .bool R, .int .i64 X, .int .i64 Y], .bool true, .bool true] w fun r w' => r = .returned (.tuple #[.agg #[.bool true, .bool true, .int .i64 X', .int .i64 Y], .int .i64 0]) ∧ Below w.heap.size w w' := by
  rcases h with ⟨rfl, rfl⟩ | ⟨rfl, rfl, rfl⟩
  · exact step8 D false true true X Y w true true _ _ 0 (.inr (.inr (.inr (.inr ⟨vld_small x0 (by omega) y0 y1, rfl, rfl, rfl, rfl, rfl, by unfold cntN; rw [if_neg (by omega)], by unfold cntM; rw [if_neg (by omega)], rfl⟩))))
  · exact step8 true true true true X' Y w true true _ _ 0 (.inr (.inr (.inr (.inl ⟨vld_small' x0 (by omega) y0 y1, rfl, rfl, rfl, rfl, rfl, rfl, rfl, rfl⟩))))
theorem step_idle (D R began : Bool) (X Y : Int) (w : World) (h : vld D R X Y = true) :
    Calls Try.prog 8 #[.agg #[.bool D, .bool R, .int .i64 X, .int .i64 Y], .bool began, .bool false] w fun r w' => r = .returned (.tuple #[.agg #[.bool D, .bool R, .int .i64 X, .int .i64 Y], .int .i64 0]) ∧ Below w.heap.size w w' :=
  step8 D R began false X Y w D R X Y 0 (.inr (.inr (.inl ⟨h, rfl, rfl, rfl, rfl, rfl, rfl⟩)))
theorem cyc (D R g : Bool) (X Y Y' : Int) (w : World) (h : vld D R X Y = true) (hy : Y < 65535) (hg : Y' = if g then Y + 1 else Y) :
    Calls Try.prog 9 #[.agg #[.bool D, .bool R, .int .i64 X, .int .i64 Y], .bool g] w fun r w' => r = .returned (.tuple #[.agg #[.bool D, .bool false, .int .i64 X, .int .i64 Y'], .int .i64 0]) ∧ Below w.heap.size w w' := by
  cases g
  · simp at hg; subst hg
    exact cycle9 D R false X Y' w D false X Y' 0 (.inr (.inl ⟨h, rfl, rfl, rfl, rfl, rfl, rfl⟩))
  · simp at hg; subst hg
    exact cycle9 D R true X Y w D false X (Y + 1) 0 (.inr (.inr ⟨h, rfl, rfl, rfl, by unfold cycN; rw [if_neg (by omega)], by unfold cycM; rw [if_neg (by omega)], rfl⟩))
set_option maxRecDepth 100000 in
set_option maxHeartbeats 4000000 in
theorem core (A B : Option Addr) (len cap cap2 : Nat) (f : Nat → Int) (g : Nat → Bool) (w : World) (hs : Ints .u8 w A len f) (ht : Bools w B len g) (hf : ∀ i, 0 ≤ f i ∧ f i ≤ 255) (hl : len ≤ 50) :
    Calls Try.prog 3 #[.slice A len cap, .slice B len cap2] w fun r w' => r = .returned (.bool true) ∧ Below w.heap.size w w' := by
  have HS := Lib.hid hs
  have HT := Lib.hid ht
  have HF := Lib.hid hf
  clear hs ht hf
  go_enter Try.func3, Try.ntmps3
  go_wp2_with fail
  refine (awake7 _).mono ?_
  rintro r w1 ⟨rfl, hb1⟩
  have sz1 := hb1.size
  go_wp2_with fail
  go_loopg [6, 7, 8, 27] len (fun gq ra co ah i wr => ∃ (k : Nat) (x y z : Int) (d : Bool), k ≤ len ∧ len - k ≤ gq ∧ i = .int .i64 k ∧ ra = .int .i64 x ∧ co = .int .i64 y ∧ ah = .int .i64 z ∧ Hid (d = decide (0 < x)) ∧ 0 ≤ x ∧ x ≤ k ∧ 0 ≤ y ∧ y ≤ k ∧ 0 ≤ z ∧ z ≤ k ∧ x ≤ y + z ∧
      wr.cell? ⟨w1.heap.size, 0, none⟩ = some (.bool d) ∧ wr.cell? ⟨w1.heap.size, 1, none⟩ = some (.bool false) ∧ wr.cell? ⟨w1.heap.size, 2, none⟩ = some (.int .i64 x) ∧ wr.cell? ⟨w1.heap.size, 3, none⟩ = some (.int .i64 y) ∧
      wr.frozen? ⟨w1.heap.size, 0, none⟩ = false ∧ wr.frozen? ⟨w1.heap.size, 1, none⟩ = false ∧ wr.frozen? ⟨w1.heap.size, 2, none⟩ = false ∧ wr.frozen? ⟨w1.heap.size, 3, none⟩ = false ∧ Below w1.heap.size w1 wr ∧ w1.heap.size < wr.heap.size)
  case atStart =>
    refine ⟨0, 0, 0, 0, false, Nat.zero_le _, by omega, rfl, rfl, rfl, rfl, rfl, by omega, by omega, by omega, by omega, by omega, by omega, by omega, by go_cell, by go_cell, by go_cell, by go_cell, by simp [go_sem], by simp [go_sem], by simp [go_sem], by simp [go_sem], by go_grown, by simp⟩
  case round =>
    obtain ⟨k, x, y, z, d, hk, hgq, rfl, rfl, rfl, rfl, HD, x0, x1, y0, y1, z0, z1, hxyz, c0, c1, c2, c3, f0, f1, f2, f3, hbl, hsz⟩ := hrel
    by_cases hlt : k < len
    · obtain ⟨b, off, rfl, hb, hcell⟩ := HS.out (by omega)
      obtain ⟨b', off', rfl, hb', hcell'⟩ := HT.out (by omega)
      have d0 := hcell k hlt
      have d1 := hcell' k hlt
      have hc := (hb1.trans (hbl.mono sz1))
      have d0 := ((bcell hc).1 _ _ hb).trans d0
      have d1 := ((bcell hc).1 _ _ hb').trans d1
      obtain ⟨n0, n1⟩ := HF.out k
      obtain ⟨n, hn⟩ : ∃ n, n = f k := ⟨_, rfl⟩
      obtain ⟨gb, hgb⟩ : ∃ n, n = g k := ⟨_, rfl⟩
      rw [← hn] at d0 n0 n1
      rw [← hgb] at d1
      clear hcell hcell' hn hgb hc
      obtain ⟨wo, rfl⟩ : ∃ wo : World, wo = wr := ⟨_, rfl⟩
      go_wp2_with fail
      go_loopw [34] (fun i wr => ∃ (j : Nat) (D R : Bool) (X : Int), (j : Int) ≤ n ∧ i = .int .i64 j ∧ Hid ((j = 0 ∧ D = d ∧ R = false ∧ X = x) ∨ (0 < j ∧ D = true ∧ R = true ∧ X = x + 1)) ∧ x ≤ X ∧ X ≤ x + 1 ∧
          wr.cell? ⟨w1.heap.size, 0, none⟩ = some (.bool D) ∧ wr.cell? ⟨w1.heap.size, 1, none⟩ = some (.bool R) ∧ wr.cell? ⟨w1.heap.size, 2, none⟩ = some (.int .i64 X) ∧ wr.cell? ⟨w1.heap.size, 3, none⟩ = some (.int .i64 y) ∧
          wr.frozen? ⟨w1.heap.size, 0, none⟩ = false ∧ wr.frozen? ⟨w1.heap.size, 1, none⟩ = false ∧ wr.frozen? ⟨w1.heap.size, 2, none⟩ = false ∧ wr.frozen? ⟨w1.heap.size, 3, none⟩ = false ∧ Below w1.heap.size w1 wr ∧ w1.heap.size < wr.heap.size ∧ wr.cell? ⟨b', off' + k, none⟩ = some (.bool gb))
        (fun i _ => (n - intOf i).toNat)
      case atStart => exact ⟨0, d, false, x, by omega, rfl, .inl ⟨rfl, rfl, rfl, rfl⟩, by omega, by omega, c0, c1, c2, c3, f0, f1, f2, f3, hbl, hsz, d1⟩
      case round =>
        obtain ⟨j, D, R, X, hj, rfl, HJ, X0, X1, a0, a1, a2, a3, g0, g1, g2, g3, abl, asz, ag⟩ := hrel
        clear c0 c1 c2 c3 f0 f1 f2 f3 hbl hsz d0 d1
        have hbb : b' < w1.heap.size := by omega
        by_cases hjn : (j : Int) < n
        · have A := Lib.hid (fun w => step_run D R X y (x + 1) w (by
            rcases HJ.out with ⟨_, _, h, h'⟩ | ⟨_, h1, h, h'⟩
            · exact .inl ⟨h, by omega⟩
            · exact .inr ⟨h, h1, by omega⟩) (by omega) (by omega) y0 (by omega))
          go_wp2_with fail
          refine (A.out _).mono ?_
          rintro r w2 ⟨rfl, hb2⟩
          have hc2 := (bcell hb2).1
          have hf2 := (bcell hb2).2
          have sz2 := hb2.size
          have e0 := (hc2 _ _ asz).trans a0
          have e1 := (hc2 _ _ asz).trans a1
          have e2 := (hc2 _ _ asz).trans a2
          have e3 := (hc2 _ _ asz).trans a3
          have k0 := (hf2 _ _ asz).trans g0
          have k1 := (hf2 _ _ asz).trans g1
          have k2 := (hf2 _ _ asz).trans g2
          have k3 := (hf2 _ _ asz).trans g3
          have eg := (hc2 _ _ (by omega)).trans ag
          have bl2 := abl.trans (hb2.mono (Nat.le_of_lt asz))
          have z2 : w1.heap.size < w2.heap.size := by omega
          clear hc2 hf2 hb2 a0 a1 a2 a3 g0 g1 g2 g3 ag abl A
          go_wp2
          go_roundw
          case rel =>
            exact ⟨j + 1, true, true, x + 1, by omega, by go_num, .inr ⟨by omega, rfl, rfl, rfl⟩, by omega, by omega, by go_cell, by go_cell, by go_cell, by go_cell, by simp [go_sem, k0], by simp [go_sem, k1], by simp [go_sem, k2], by simp [go_sem, k3], by go_grown, by simpa using z2, (by simp [go_sem, eg, show b' ≠ w1.heap.size by omega])⟩
          case measure => simp [intOf]; omega
        · have hX : (0 < n ∧ X = x + 1 ∧ D = true) ∨ (n = 0 ∧ X = x ∧ D = d) := by
            rcases HJ.out with ⟨h1, h2, h3, h4⟩ | ⟨h1, h2, h3, h4⟩
            · exact .inr ⟨by omega, h4, h2⟩
            · exact .inl ⟨by omega, h4, h2⟩
          have hv : vld D R X y = true := by
            rcases HJ.out with ⟨h1, h2, h3, h4⟩ | ⟨h1, h2, h3, h4⟩
            · subst h3; exact vld_small (by omega) (by omega) y0 (by omega)
            · subst h2; exact vld_small' (by omega) (by omega) y0 (by omega)
          have A := Lib.hid (fun began w => step_idle D R began X y w hv)
          obtain ⟨Y', hY⟩ : ∃ Y', Y' = if gb then y + 1 else y := ⟨_, rfl⟩
          have C := Lib.hid (fun w => cyc D R gb X y Y' w hv (by omega) hY)
          have hd2 : D = decide (0 < X) := by
            rcases hX with ⟨h1, h2, h3⟩ | ⟨h1, h2, h3⟩
            · rw [h3, h2]; simp; omega
            · rw [h3, h2]; exact HD.out
          have HX := Lib.hid (And.intro hX (And.intro hY hd2))
          clear hX hv hY hd2
          go_wp2_with fail
          refine (A.out _ _).mono ?_
          rintro r w2 ⟨rfl, hb2⟩
          have hc2 := (bcell hb2).1
          have hf2 := (bcell hb2).2
          have sz2 := hb2.size
          have e0 := (hc2 _ _ asz).trans a0
          have e1 := (hc2 _ _ asz).trans a1
          have e2 := (hc2 _ _ asz).trans a2
          have e3 := (hc2 _ _ asz).trans a3
          have k0 := (hf2 _ _ asz).trans g0
          have k1 := (hf2 _ _ asz).trans g1
          have k2 := (hf2 _ _ asz).trans g2
          have k3 := (hf2 _ _ asz).trans g3
          have eg := (hc2 _ _ (by omega)).trans ag
          have bl2 := abl.trans (hb2.mono (Nat.le_of_lt asz))
          have z2 : w1.heap.size < w2.heap.size := by omega
          clear hc2 hf2 hb2 a0 a1 a2 a3 g0 g1 g2 g3 ag abl A
          have hXb : (n = 0 ∧ X = x) ∨ (0 < n ∧ X = x + 1) := by rcases HX.out.1 with h | h <;> omega
          rcases hXb with ⟨rfl, rfl⟩ | ⟨hn0, rfl⟩
          case inl =>
            go_wp2_with fail
            have hne : b' ≠ w1.heap.size := by omega
            obtain ⟨w3, hw3⟩ : ∃ w3, w3 = ((((w2.setCell ⟨w1.heap.size, 0, none⟩ (.bool D)).setCell ⟨w1.heap.size, 1, none⟩ (.bool R)).setCell ⟨w1.heap.size, 2, none⟩ (.int .i64 X)).setCell ⟨w1.heap.size, 3, none⟩ (.int .i64 y)) := ⟨_, rfl⟩
            have e0 : w3.cell? ⟨w1.heap.size, 0, none⟩ = some (.bool D) := by rw [hw3]; go_cell
            have e1 : w3.cell? ⟨w1.heap.size, 1, none⟩ = some (.bool R) := by rw [hw3]; go_cell
            have e2 : w3.cell? ⟨w1.heap.size, 2, none⟩ = some (.int .i64 X) := by rw [hw3]; go_cell
            have e3 : w3.cell? ⟨w1.heap.size, 3, none⟩ = some (.int .i64 y) := by rw [hw3]; go_cell
            have k0 : w3.frozen? ⟨w1.heap.size, 0, none⟩ = false := by rw [hw3]; simp [go_sem, k0]
            have k1 : w3.frozen? ⟨w1.heap.size, 1, none⟩ = false := by rw [hw3]; simp [go_sem, k1]
            have k2 : w3.frozen? ⟨w1.heap.size, 2, none⟩ = false := by rw [hw3]; simp [go_sem, k2]
            have k3 : w3.frozen? ⟨w1.heap.size, 3, none⟩ = false := by rw [hw3]; simp [go_sem, k3]
            have eg : w3.cell? ⟨b', off' + k, none⟩ = some (.bool gb) := by rw [hw3]; simp [go_sem, eg, hne]
            have bl3 : Below w1.heap.size w1 w3 := by rw [hw3]; go_grown
            have z3 : w1.heap.size < w3.heap.size := by rw [hw3]; simpa using z2
            rw [← hw3]
            clear hw3 bl2
            refine region_K (fun W => W.cell? ⟨w1.heap.size, 0, none⟩ = some (.bool D) ∧ W.cell? ⟨w1.heap.size, 1, none⟩ = some (.bool R) ∧ W.cell? ⟨w1.heap.size, 2, none⟩ = some (.int .i64 X) ∧ W.cell? ⟨w1.heap.size, 3, none⟩ = some (.int .i64 y) ∧ W.cell? ⟨b', off' + k, none⟩ = some (.bool gb)) 5 (by kernel_rfl) ⟨e0, e1, e2, e3, eg⟩ (fun hHeld => ?_)
            refine K_take (i := 0) (v := ?_) rfl (by kernel_rfl) (by kernel_rfl) (by kernel_rfl) (by kernel_rfl) (by kernel_rfl) (fun _ _ _ h => h) (Or.inl ⟨by rfl, ?_⟩) hHeld ?_
            rotate_left 1
            · intro w hSw
              (try dsimp only at hSw)
              go_simp
              all_goals with_reducible rfl
            try simp only [Act.put, List.setIfInBounds_toArray, List.set_cons_zero, List.set_cons_succ]
            refine K_take (i := 1) (v := ?_) rfl (by kernel_rfl) (by kernel_rfl) (by kernel_rfl) (by kernel_rfl) (by kernel_rfl) (fun _ _ _ h => h) (Or.inl ⟨by rfl, ?_⟩) hHeld ?_
            rotate_left 1
            · intro w hSw
              (try dsimp only at hSw)
              go_simp
              all_goals with_reducible rfl
            try simp only [Act.put, List.setIfInBounds_toArray, List.set_cons_zero, List.set_cons_succ]
            refine K_take (i := 2) (v := ?_) rfl (by kernel_rfl) (by kernel_rfl) (by kernel_rfl) (by kernel_rfl) (by kernel_rfl) (fun _ _ _ h => h) (Or.inl ⟨by rfl, ?_⟩) hHeld ?_
            rotate_left 1
            · intro w hSw
              (try dsimp only at hSw)
              go_simp
              all_goals with_reducible rfl
            try simp only [Act.put, List.setIfInBounds_toArray, List.set_cons_zero, List.set_cons_succ]
            refine K_take (i := 3) (v := ?_) rfl (by kernel_rfl) (by kernel_rfl) (by kernel_rfl) (by kernel_rfl) (by kernel_rfl) (fun _ _ _ h => h) (Or.inl ⟨by rfl, ?_⟩) hHeld ?_
            rotate_left 1
            · intro w hSw
              (try dsimp only at hSw)
              go_simp
              all_goals with_reducible rfl
            try simp only [Act.put, List.setIfInBounds_toArray, List.set_cons_zero, List.set_cons_succ]
            refine K_take (i := 4) (v := ?_) rfl (by kernel_rfl) (by kernel_rfl) (by kernel_rfl) (by kernel_rfl) (by kernel_rfl) (fun _ _ _ h => h) (Or.inl ⟨by rfl, ?_⟩) hHeld ?_
            rotate_left 1
            · intro w hSw
              (try dsimp only at hSw)
              go_simp
              all_goals with_reducible rfl
            try simp only [Act.put, List.setIfInBounds_toArray, List.set_cons_zero, List.set_cons_succ]
            refine K_step (by kernel_rfl) (by kernel_rfl) rfl (fun K hK => ?_)
            go_simp
            refine (C.out _).mono ?_
            rintro r w4 ⟨rfl, hb4⟩
            have hc4 := (bcell hb4).1
            have hf4 := (bcell hb4).2
            have sz4 := hb4.size
            have z3' : w1.heap.size < w3.drew.heap.size := z3
            have l0 := (hc4 _ _ z3').trans hHeld.1
            have l1 := (hc4 _ _ z3').trans hHeld.2.1
            have l2 := (hc4 _ _ z3').trans hHeld.2.2.1
            have l3 := (hc4 _ _ z3').trans hHeld.2.2.2.1
            have m0 : w4.frozen? ⟨w1.heap.size, 0, none⟩ = false := (hf4 _ _ z3').trans k0
            have m1 : w4.frozen? ⟨w1.heap.size, 1, none⟩ = false := (hf4 _ _ z3').trans k1
            have m2 : w4.frozen? ⟨w1.heap.size, 2, none⟩ = false := (hf4 _ _ z3').trans k2
            have m3 : w4.frozen? ⟨w1.heap.size, 3, none⟩ = false := (hf4 _ _ z3').trans k3
            have lg := (hc4 _ _ (Nat.lt_trans hbb z3')).trans hHeld.2.2.2.2
            have bl4 : Below w1.heap.size w1 w4 := bl3.drew.trans (hb4.mono (Nat.le_of_lt z3))
            have z4 : w1.heap.size < w4.heap.size := Nat.lt_of_lt_of_le z3' sz4
            clear hc4 hf4 hb4 sz4 hHeld bl3 z3' z3 k0 k1 k2 k3
            refine hK.out _ _ ?_
            clear hK K
            try simp only [Act.put, List.setIfInBounds_toArray, List.set_cons_zero, List.set_cons_succ]
            refine wpAny_take (i := 6) (v := ?_) rfl (by kernel_rfl) (by kernel_rfl) (by kernel_rfl) (fun _ _ _ h => h) (Or.inl ⟨by rfl, ?_⟩) ?_
            rotate_left 1
            · intro w
              go_simp
              all_goals with_reducible rfl
            try simp only [Act.put, List.setIfInBounds_toArray, List.set_cons_zero, List.set_cons_succ]
            refine wpAny_take (i := 7) (v := ?_) rfl (by kernel_rfl) (by kernel_rfl) (by kernel_rfl) (fun _ _ _ h => h) (Or.inl ⟨by rfl, ?_⟩) ?_
            rotate_left 1
            · intro w
              go_simp
              all_goals with_reducible rfl
            try simp only [Act.put, List.setIfInBounds_toArray, List.set_cons_zero, List.set_cons_succ]
            refine wpAny_take (i := 8) (v := ?_) rfl (by kernel_rfl) (by kernel_rfl) (by kernel_rfl) (fun _ _ _ h => h) (Or.inl ⟨by rfl, ?_⟩) ?_
            rotate_left 1
            · intro w
              go_simp
              all_goals with_reducible rfl
            try simp only [Act.put, List.setIfInBounds_toArray, List.set_cons_zero, List.set_cons_succ]
            refine wpAny_ready (rs := [9]) (by kernel_rfl) (by simp) (AllReady.cons rfl (fun K hK => ?_) AllReady.nil)
            go_simp
            refine hK _ _ ?_
            clear hK K
            try simp only [Act.put, List.setIfInBounds_toArray, List.set_cons_zero, List.set_cons_succ]
            refine wpAny_take (i := 10) (v := ?_) rfl (by kernel_rfl) (by kernel_rfl) (by kernel_rfl) (fun _ _ _ h => h) (Or.inl ⟨by rfl, ?_⟩) ?_
            rotate_left 1
            · intro w
              go_simp
              all_goals with_reducible rfl
            try simp only [Act.put, List.setIfInBounds_toArray, List.set_cons_zero, List.set_cons_succ]
            refine wpAny_done (by kernel_rfl) ?_ _
            clear e0 e1 e2 e3 k0 k1 k2 k3 eg C
            have hG : (gb = true ∧ Y' = y + 1) ∨ (gb = false ∧ Y' = y) := by
              have := HX.out.2.1
              cases gb <;> simp at this <;> simp [this]
            have hDx : (0 < X ∧ D = true) ∨ (X = 0 ∧ D = false) := by
              have h := HX.out.2.2
              by_cases h0 : 0 < X
              · exact .inl ⟨h0, by rw [h]; simp [h0]⟩
              · exact .inr ⟨by omega, by rw [h]; simp; omega⟩
            clear HX
            rcases hDx with ⟨hx0, rfl⟩ | ⟨rfl, rfl⟩
            all_goals
              rcases hG with ⟨rfl, rfl⟩ | ⟨rfl, rfl⟩
            all_goals
              go_wp2
              go_roundg (len - (k + 1))
              case measure => omega
              case rel =>
                refine ⟨k + 1, _, _, _, _, by omega, by omega, by go_num, rfl, rfl, rfl, ?_, by omega, by omega, by omega, by omega, by omega, by omega, by omega, by go_cell, by go_cell, by go_cell, by go_cell, by simp [go_sem, m0], by simp [go_sem, m1], by simp [go_sem, m2], by simp [go_sem, m3], by go_grown, by simpa using z4⟩
                show _ = decide _
                simp
                try omega
          case inr =>
            go_wp2_with fail
            have hne : b' ≠ w1.heap.size := by omega
            obtain ⟨w3, hw3⟩ : ∃ w3, w3 = ((((w2.setCell ⟨w1.heap.size, 0, none⟩ (.bool D)).setCell ⟨w1.heap.size, 1, none⟩ (.bool R)).setCell ⟨w1.heap.size, 2, none⟩ (.int .i64 (x + 1))).setCell ⟨w1.heap.size, 3, none⟩ (.int .i64 y)) := ⟨_, rfl⟩
            have e0 : w3.cell? ⟨w1.heap.size, 0, none⟩ = some (.bool D) := by rw [hw3]; go_cell
            have e1 : w3.cell? ⟨w1.heap.size, 1, none⟩ = some (.bool R) := by rw [hw3]; go_cell
            have e2 : w3.cell? ⟨w1.heap.size, 2, none⟩ = some (.int .i64 (x + 1)) := by rw [hw3]; go_cell
            have e3 : w3.cell? ⟨w1.heap.size, 3, none⟩ = some (.int .i64 y) := by rw [hw3]; go_cell
            have k0 : w3.frozen? ⟨w1.heap.size, 0, none⟩ = false := by rw [hw3]; simp [go_sem, k0]
            have k1 : w3.frozen? ⟨w1.heap.size, 1, none⟩ = false := by rw [hw3]; simp [go_sem, k1]
            have k2 : w3.frozen? ⟨w1.heap.size, 2, none⟩ = false := by rw [hw3]; simp [go_sem, k2]
            have k3 : w3.frozen? ⟨w1.heap.size, 3, none⟩ = false := by rw [hw3]; simp [go_sem, k3]
            have eg : w3.cell? ⟨b', off' + k, none⟩ = some (.bool gb) := by rw [hw3]; simp [go_sem, eg, hne]
            have bl3 : Below w1.heap.size w1 w3 := by rw [hw3]; go_grown
            have z3 : w1.heap.size < w3.heap.size := by rw [hw3]; simpa using z2
            rw [← hw3]
            clear hw3 bl2
            refine region_K (fun W => W.cell? ⟨w1.heap.size, 0, none⟩ = some (.bool D) ∧ W.cell? ⟨w1.heap.size, 1, none⟩ = some (.bool R) ∧ W.cell? ⟨w1.heap.size, 2, none⟩ = some (.int .i64 (x + 1)) ∧ W.cell? ⟨w1.heap.size, 3, none⟩ = some (.int .i64 y) ∧ W.cell? ⟨b', off' + k, none⟩ = some (.bool gb)) 5 (by kernel_rfl) ⟨e0, e1, e2, e3, eg⟩ (fun hHeld => ?_)
            refine K_take (i := 0) (v := ?_) rfl (by kernel_rfl) (by kernel_rfl) (by kernel_rfl) (by kernel_rfl) (by kernel_rfl) (fun _ _ _ h => h) (Or.inl ⟨by rfl, ?_⟩) hHeld ?_
            rotate_left 1
            · intro w hSw
              (try dsimp only at hSw)
              go_simp
              all_goals with_reducible rfl
            try simp only [Act.put, List.setIfInBounds_toArray, List.set_cons_zero, List.set_cons_succ]
            refine K_take (i := 1) (v := ?_) rfl (by kernel_rfl) (by kernel_rfl) (by kernel_rfl) (by kernel_rfl) (by kernel_rfl) (fun _ _ _ h => h) (Or.inl ⟨by rfl, ?_⟩) hHeld ?_
            rotate_left 1
            · intro w hSw
              (try dsimp only at hSw)
              go_simp
              all_goals with_reducible rfl
            try simp only [Act.put, List.setIfInBounds_toArray, List.set_cons_zero, List.set_cons_succ]
            refine K_take (i := 2) (v := ?_) rfl (by kernel_rfl) (by kernel_rfl) (by kernel_rfl) (by kernel_rfl) (by kernel_rfl) (fun _ _ _ h => h) (Or.inl ⟨by rfl, ?_⟩) hHeld ?_
            rotate_left 1
            · intro w hSw
              (try dsimp only at hSw)
              go_simp
              all_goals with_reducible rfl
            try simp only [Act.put, List.setIfInBounds_toArray, List.set_cons_zero, List.set_cons_succ]
            refine K_take (i := 3) (v := ?_) rfl (by kernel_rfl) (by kernel_rfl) (by kernel_rfl) (by kernel_rfl) (by kernel_rfl) (fun _ _ _ h => h) (Or.inl ⟨by rfl, ?_⟩) hHeld ?_
            rotate_left 1
            · intro w hSw
              (try dsimp only at hSw)
              go_simp
              all_goals with_reducible rfl
            try simp only [Act.put, List.setIfInBounds_toArray, List.set_cons_zero, List.set_cons_succ]
            refine K_take (i := 4) (v := ?_) rfl (by kernel_rfl) (by kernel_rfl) (by kernel_rfl) (by kernel_rfl) (by kernel_rfl) (fun _ _ _ h => h) (Or.inl ⟨by rfl, ?_⟩) hHeld ?_
            rotate_left 1
            · intro w hSw
              (try dsimp only at hSw)
              go_simp
              all_goals with_reducible rfl
            try simp only [Act.put, List.setIfInBounds_toArray, List.set_cons_zero, List.set_cons_succ]
            refine K_step (by kernel_rfl) (by kernel_rfl) rfl (fun K hK => ?_)
            go_simp
            refine (C.out _).mono ?_
            rintro r w4 ⟨rfl, hb4⟩
            have hc4 := (bcell hb4).1
            have hf4 := (bcell hb4).2
            have sz4 := hb4.size
            have z3' : w1.heap.size < w3.drew.heap.size := z3
            have l0 := (hc4 _ _ z3').trans hHeld.1
            have l1 := (hc4 _ _ z3').trans hHeld.2.1
            have l2 := (hc4 _ _ z3').trans hHeld.2.2.1
            have l3 := (hc4 _ _ z3').trans hHeld.2.2.2.1
            have m0 : w4.frozen? ⟨w1.heap.size, 0, none⟩ = false := (hf4 _ _ z3').trans k0
            have m1 : w4.frozen? ⟨w1.heap.size, 1, none⟩ = false := (hf4 _ _ z3').trans k1
            have m2 : w4.frozen? ⟨w1.heap.size, 2, none⟩ = false := (hf4 _ _ z3').trans k2
            have m3 : w4.frozen? ⟨w1.heap.size, 3, none⟩ = false := (hf4 _ _ z3').trans k3
            have lg := (hc4 _ _ (Nat.lt_trans hbb z3')).trans hHeld.2.2.2.2
            have bl4 : Below w1.heap.size w1 w4 := bl3.drew.trans (hb4.mono (Nat.le_of_lt z3))
            have z4 : w1.heap.size < w4.heap.size := Nat.lt_of_lt_of_le z3' sz4
            clear hc4 hf4 hb4 sz4 hHeld bl3 z3' z3 k0 k1 k2 k3
            refine hK.out _ _ ?_
            clear hK K
            try simp only [Act.put, List.setIfInBounds_toArray, List.set_cons_zero, List.set_cons_succ]
            refine wpAny_take (i := 6) (v := ?_) rfl (by kernel_rfl) (by kernel_rfl) (by kernel_rfl) (fun _ _ _ h => h) (Or.inl ⟨by rfl, ?_⟩) ?_
            rotate_left 1
            · intro w
              go_simp
              all_goals with_reducible rfl
            try simp only [Act.put, List.setIfInBounds_toArray, List.set_cons_zero, List.set_cons_succ]
            refine wpAny_take (i := 7) (v := ?_) rfl (by kernel_rfl) (by kernel_rfl) (by kernel_rfl) (fun _ _ _ h => h) (Or.inl ⟨by rfl, ?_⟩) ?_
            rotate_left 1
            · intro w
              go_simp
              all_goals with_reducible rfl
            try simp only [Act.put, List.setIfInBounds_toArray, List.set_cons_zero, List.set_cons_succ]
            refine wpAny_take (i := 8) (v := ?_) rfl (by kernel_rfl) (by kernel_rfl) (by kernel_rfl) (fun _ _ _ h => h) (Or.inl ⟨by rfl, ?_⟩) ?_
            rotate_left 1
            · intro w
              go_simp
              all_goals with_reducible rfl
            try simp only [Act.put, List.setIfInBounds_toArray, List.set_cons_zero, List.set_cons_succ]
            refine wpAny_ready (rs := [9]) (by kernel_rfl) (by simp) (AllReady.cons rfl (fun K hK => ?_) AllReady.nil)
            go_simp
            refine hK _ _ ?_
            clear hK K
            try simp only [Act.put, List.setIfInBounds_toArray, List.set_cons_zero, List.set_cons_succ]
            refine wpAny_take (i := 10) (v := ?_) rfl (by kernel_rfl) (by kernel_rfl) (by kernel_rfl) (fun _ _ _ h => h) (Or.inl ⟨by rfl, ?_⟩) ?_
            rotate_left 1
            · intro w
              go_simp
              all_goals with_reducible rfl
            try simp only [Act.put, List.setIfInBounds_toArray, List.set_cons_zero, List.set_cons_succ]
            refine wpAny_done (by kernel_rfl) ?_ _
            clear e0 e1 e2 e3 k0 k1 k2 k3 eg C
            have hG : (gb = true ∧ Y' = y + 1) ∨ (gb = false ∧ Y' = y) := by
              have := HX.out.2.1
              cases gb <;> simp at this <;> simp [this]
            obtain rfl : D = true := by
              rcases HX.out.1 with ⟨_, _, h⟩ | ⟨h, _⟩
              · exact h
              · omega
            clear HX
            all_goals
              rcases hG with ⟨rfl, rfl⟩ | ⟨rfl, rfl⟩
            all_goals
              have hdx : decide ((0 : Int) < x + 1) = true := by simp; omega
              go_wp2
              go_roundg (len - (k + 1))
              case measure => omega
              case rel =>
                refine ⟨k + 1, _, _, _, _, by omega, by omega, by go_num, rfl, rfl, rfl, ?_, by omega, by omega, by omega, by omega, by omega, by omega, by omega, by go_cell, by go_cell, by go_cell, by go_cell, by simp [go_sem, m0], by simp [go_sem, m1], by simp [go_sem, m2], by simp [go_sem, m3], by go_grown, by simpa using z4⟩
                show _ = decide _
                simp
                try omega
    · obtain rfl : k = len := by omega
      go_wp2
      go_ret
      exact ⟨rfl, hb1.trans (hbl.mono sz1)⟩
theorem core_out (A B : Option Addr) (len len2 cap cap2 : Nat) (w : World) (h : 50 < len ∨ (len ≤ 50 ∧ ((len2 : Int) != (len : Int)) = true)) (h1 : len ≤ 9223372036854775807) (h2 : len2 ≤ 9223372036854775807) :
    Calls Try.prog 3 #[.slice A len cap, .slice B len2 cap2] w fun r w' => r = .returned (.bool true) ∧ Below w.heap.size w w' := by
  rcases h with h | ⟨h, h'⟩
  all_goals
    go_enter Try.func3, Try.ntmps3
    go_wp2_with fail
    refine (awake7 _).mono ?_
    rintro r w1 ⟨rfl, hb1⟩
    have hg1 := chain (w := w) (by go_grown) hb1
    clear hb1
    go_wp2
    go_ret
    exact ⟨rfl, hg1⟩
theorem all3 (A B : Option Addr) (len len2 cap cap2 : Nat) (f : Nat → Int) (g : Nat → Bool) (w : World) (hs : Ints .u8 w A len f) (ht : Bools w B len2 g) (hf : ∀ i, 0 ≤ f i ∧ f i ≤ 255) (h1 : len ≤ 9223372036854775807) (h2 : len2 ≤ 9223372036854775807) :
    Calls Try.prog 3 #[.slice A len cap, .slice B len2 cap2] w fun r w' => r = .returned (.bool true) ∧ Below w.heap.size w w' := by
  by_cases h : 50 < len
  · exact core_out A B len len2 cap cap2 w (.inl h) h1 h2
  · by_cases e : len2 = len
    · subst e
      exact core A B len2 cap cap2 f g w hs ht hf (by omega)
    · exact core_out A B len len2 cap cap2 w (.inr ⟨by omega, by simp; omega⟩) h1 h2
end Go.Proofs.Ytomnhbbgndopnaa.readinessOnce
