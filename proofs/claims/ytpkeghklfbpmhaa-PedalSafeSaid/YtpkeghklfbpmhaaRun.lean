/-
  The contract of pedal.Run, and the law file's own check of the examples. Condition: at most 1000 pairs.
-/
import Derived.Test.YtpkeghklfbpmhaaStep
set_option linter.unusedVariables false
namespace Go.Proofs.Ytpkeghklfbpmhaa
open Go.RowKit
/-- pairs of readings: cell by cell -/
def Pairs (w : World) (A : Option Addr) (len : Nat) (f g : Nat → Int) : Prop :=
  0 < len → ∃ b off, A = some ⟨b, off, none⟩ ∧ b < w.heap.size ∧ ∀ i, i < len → w.cell? ⟨b, off + i * 2, none⟩ = some (.int .i64 (f i)) ∧ w.cell? ⟨b, off + i * 2 + 1, none⟩ = some (.int .i64 (g i))
/-- the state after k pairs -/
def stV (f g : Nat → Int) : Nat → Int × Int
  | 0 => (0, 0)
  | k + 1 => (nxV (stV f g k).1 (stV f g k).2 (f k) (g k), nxD (stV f g k).2 (f k) (g k))
def sV (f g : Nat → Int) (k : Nat) : Int := (stV f g k).1
def sD (f g : Nat → Int) (k : Nat) : Int := (stV f g k).2
theorem sV_succ (f g : Nat → Int) (k : Nat) : sV f g (k + 1) = nxV (sV f g k) (sD f g k) (f k) (g k) := rfl
theorem sD_succ (f g : Nat → Int) (k : Nat) : sD f g (k + 1) = nxD (sD f g k) (f k) (g k) := rfl
theorem valid_next (V D x y : Int) (h : validB V D (D == 3) = true) : validB (nxV V D x y) (nxD D x y) (nxD D x y == 3) = true := by
  have hc := valid_cases h
  obtain ⟨a, ha⟩ : ∃ a, a = clamp x 0 1000 := ⟨_, rfl⟩
  obtain ⟨b, hb⟩ : ∃ b, b = clamp y 0 500 := ⟨_, rfl⟩
  obtain ⟨R1, hR1⟩ : ∃ R, R = nxV V D x y := ⟨_, rfl⟩
  obtain ⟨R2, hR2⟩ : ∃ R, R = nxD D x y := ⟨_, rfl⟩
  obtain ⟨k1, k2⟩ := nx_facts ha hb hR1 hR2
  rw [← hR1, ← hR2]
  have a0 : 0 ≤ a ∧ a ≤ 1000 := by rw [ha]; unfold clamp; omega
  have b0 : 0 ≤ b ∧ b ≤ 500 := by rw [hb]; unfold clamp; omega
  have r : R2 = 3 ∨ ¬ R2 = 3 := by omega
  have hD : 0 ≤ D ∧ D ≤ 3 ∧ 0 ≤ V ∧ V ≤ 1000 := by omega
  clear hc ha hb hR1 hR2
  rcases r with r | r
  · subst r
    simp [validB]
    omega
  · have e : (R2 == 3) = false := by simp [r]
    rw [e]
    simp [validB, r]
    omega
theorem valid_st (f g : Nat → Int) : ∀ k, validB (sV f g k) (sD f g k) (sD f g k == 3) = true
  | 0 => by show validB 0 0 false = true; decide
  | k + 1 => by rw [sV_succ, sD_succ]; exact valid_next _ _ _ _ (valid_st f g k)
def sts (f g : Nat → Int) (k : Nat) : List Value := (List.range k).flatMap fun i => [.int .i64 (sV f g (i + 1)), .int .i64 (sD f g (i + 1)), .bool (sD f g (i + 1) == 3)]
theorem sts_succ (f g : Nat → Int) (k : Nat) : sts f g (k + 1) = sts f g k ++ [.int .i64 (sV f g (k + 1)), .int .i64 (sD f g (k + 1)), .bool (sD f g (k + 1) == 3)] := by
  unfold sts; rw [List.range_succ, List.flatMap_append]; simp
def RunPost (len : Nat) (f g : Nat → Int) (w : World) (e : Ending) (w' : World) : Prop :=
  ∃ v, e = .returned (.tuple #[v, .int .i64 0]) ∧ w'.ownsRow w.heap.size 23 3 v len (sts f g len) ∧ Below w.heap.size w w'
theorem info23 : (Try.prog.info? 23).map (fun i => (i.zero, i.size, i.bytes)) = some (some (.agg #[.int .i64 0, .int .i64 0, .bool false]), 3, 24) := by kernel_rfl
theorem own_mono {w : World} {base base' : Nat} {e : TypeId} {size : Nat} {v : Value} {n : Nat} {xs : List Value} (h : w.ownsRow base e size v n xs) (hb : base' ≤ base) : w.ownsRow base' e size v n xs := by
  refine ⟨h.1, ?_⟩
  rcases h.2 with h2 | ⟨g, cap, cur, hv, hg, r⟩
  · exact .inl h2
  · exact .inr ⟨g, cap, cur, hv, by omega, r⟩
set_option maxHeartbeats 1000000 in
theorem run12 (A : Option Addr) (len cap : Nat) (f g : Nat → Int) (w : World) (hs : Pairs w A len f g) (hl : len ≤ 1000) : Calls Try.prog 12 #[.slice A len cap] w (RunPost len f g w) := by
  obtain ⟨i0, hi, hz0, hz1, hz2⟩ := info_parts info23
  have HS := Lib.hid hs
  clear hs
  go_enter Try.func12, Try.ntmps12
  go_wp2_with fail
  refine (new8 _).mono ?_
  rintro r w1 ⟨rfl, hb1⟩
  go_wp2_with fail
  have hs1 : w.heap.size ≤ w1.heap.size := hb1.size
  go_loopw [4, 14] (fun v i wr => ∃ k : Nat, k ≤ len ∧ i = .int .i64 k ∧ wr.ownsRow (w1.heap.size + 1) 23 3 v k (sts f g k) ∧ wr.cell? ⟨w1.heap.size, 0, none⟩ = some (.int .i64 (sV f g k)) ∧ wr.cell? ⟨w1.heap.size, 1, none⟩ = some (.int .i64 (sD f g k)) ∧ wr.cell? ⟨w1.heap.size, 2, none⟩ = some (.bool (sD f g k == 3)) ∧
      wr.frozen? ⟨w1.heap.size, 0, none⟩ = false ∧ wr.frozen? ⟨w1.heap.size, 1, none⟩ = false ∧ wr.frozen? ⟨w1.heap.size, 2, none⟩ = false ∧ Below w1.heap.size w1 wr ∧ w1.heap.size + 1 ≤ wr.heap.size)
    (fun _ i _ => len - (intOf i).toNat)
  case atStart =>
    refine ⟨0, Nat.zero_le _, rfl, World.ownsRow_nil _ _ _ _, ?_, ?_, ?_, ?_, ?_, ?_, ?_, ?_⟩
    · show _ = some (Value.int .i64 0); go_cell
    · show _ = some (Value.int .i64 0); go_cell
    · show _ = some (Value.bool false); go_cell
    all_goals first | (simp [go_sem]; done) | go_grown
  case round =>
    obtain ⟨k, hk, rfl, hown, c0, c1, c2, f0, f1, f2, hbl, hsz⟩ := hrel
    by_cases hlt : k < len
    · obtain ⟨b, off, rfl, hb, hcell⟩ := HS.out (by omega)
      obtain ⟨d0, d1⟩ := hcell k hlt
      have hbb : b < w1.heap.size := by omega
      have d0 : wr.cell? ⟨b, off + k * 2, none⟩ = some (.int .i64 (f k)) := (hbl.cell (p := ⟨b, _, none⟩) hbb).trans ((hb1.cell (p := ⟨b, _, none⟩) hb).trans d0)
      have d1 : wr.cell? ⟨b, off + k * 2 + 1, none⟩ = some (.int .i64 (g k)) := (hbl.cell (p := ⟨b, _, none⟩) hbb).trans ((hb1.cell (p := ⟨b, _, none⟩) hb).trans d1)
      clear hcell
      have hv := valid_st f g k
      have eV := sV_succ f g k
      have eD := sD_succ f g k
      have eS := sts_succ f g k
      obtain ⟨V, hV⟩ : ∃ V, V = sV f g k := ⟨_, rfl⟩
      obtain ⟨D, hD⟩ : ∃ D, D = sD f g k := ⟨_, rfl⟩
      obtain ⟨F, hF⟩ : ∃ F, F = (sD f g k == 3) := ⟨_, rfl⟩
      obtain ⟨V', hV'⟩ : ∃ V, V = sV f g (k + 1) := ⟨_, rfl⟩
      obtain ⟨D', hD'⟩ : ∃ D, D = sD f g (k + 1) := ⟨_, rfl⟩
      obtain ⟨F', hF'⟩ : ∃ F, F = (sD f g (k + 1) == 3) := ⟨_, rfl⟩
      obtain ⟨xs, hxs⟩ : ∃ xs, xs = sts f g k := ⟨_, rfl⟩
      rw [← hV] at c0
      rw [← hD] at c1
      rw [← hF] at c2
      rw [← hF, ← hV, ← hD] at hv
      rw [← hV, ← hD, ← hV'] at eV
      rw [← hD, ← hD'] at eD
      rw [← hF', ← hD', ← hV', ← hxs] at eS
      rw [← hD', eD] at hF'
      rw [← hxs] at hown
      have A := Lib.hid (fun w => step7_ok V D (f k) (g k) F w hv)
      rw [← eV, ← eD] at A
      rw [← eD] at hF'
      rw [← hF'] at A
      have ES := Lib.hid eS
      have EF := Lib.hid (And.intro hV' (And.intro hD' hF'))
      obtain ⟨x, hx⟩ : ∃ x, x = f k := ⟨_, rfl⟩
      obtain ⟨y, hy⟩ : ∃ y, y = g k := ⟨_, rfl⟩
      rw [← hx] at d0 A
      rw [← hy] at d1 A
      clear hv eV eD eS hV hD hF hV' hD' hF' hx hy hxs
      have hlz : w1.heap.size < wr.heap.size := by omega
      go_wp2_with fail
      refine (A.out _).mono ?_
      rintro r w2 ⟨rfl, hb2⟩
      obtain ⟨hc2, hf2⟩ := bcell hb2
      have sz2 := hb2.size
      simp at sz2
      have e0 : w2.cell? ⟨w1.heap.size, 0, none⟩ = some (.int .i64 V) := (hc2 _ _ (by simp; omega)).trans (by go_cell)
      have e1 : w2.cell? ⟨w1.heap.size, 1, none⟩ = some (.int .i64 D) := (hc2 _ _ (by simp; omega)).trans (by go_cell)
      have e2 : w2.cell? ⟨w1.heap.size, 2, none⟩ = some (.bool F) := (hc2 _ _ (by simp; omega)).trans (by go_cell)
      have g0 : w2.frozen? ⟨w1.heap.size, 0, none⟩ = false := (hf2 _ _ (by simp; omega)).trans (by simp [go_sem, f0, hlz])
      have g1 : w2.frozen? ⟨w1.heap.size, 1, none⟩ = false := (hf2 _ _ (by simp; omega)).trans (by simp [go_sem, f1, hlz])
      have g2 : w2.frozen? ⟨w1.heap.size, 2, none⟩ = false := (hf2 _ _ (by simp; omega)).trans (by simp [go_sem, f2, hlz])
      have hz3 : w1.heap.size < w2.heap.size := by omega
      have hown2 := own_below (hown.alloc (.cells #[.int .i64 x, .int .i64 y] 36)) hb2
      have hown3 := ownsRow_setCell_below (ownsRow_setCell_below (ownsRow_setCell_below hown2 (a := ⟨w1.heap.size, 0, none⟩) (by simp) (.int .i64 V')) (a := ⟨w1.heap.size, 1, none⟩) (by simp) (.int .i64 D')) (a := ⟨w1.heap.size, 2, none⟩) (by simp) (.bool F')
      have hbl2 : Below w1.heap.size w1 w2 := (hbl.alloc (by omega) _).trans (hb2.mono (by simp; omega))
      clear hc2 hf2 hb2 hown hown2 c0 c1 c2 f0 f1 f2 hbl A d0 d1
      go_wp2_with (at_builtin; go_loud (refine wpList_append_own _ rfl _ _ 33 rfl (w1.heap.size + 1) 23 i0 (.agg #[.int .i64 0, .int .i64 0, .bool false]) 3 24 Try.underlying33 hi hz0 hz1 hz2 rfl (by decide) _ _ _ rfl (hown3.alloc _) ⟨w2.heap.size, 0, none⟩ 1 1 [.int .i64 V', .int .i64 D', .bool F'] rfl rfl ?c1 ?c2 ?c3 ?c4 ?c5 ?_))
      case c1 => exact cells_new (by simp) _ _
      case c2 => intro u hu; simp at hu; rcases hu with rfl | rfl | rfl <;> rfl
      case c3 => unfold maxLen; omega
      case c4 => omega
      case c5 => simp; omega
      · intro v' w3 hown' hgrow _
        rw [← ES.out] at hown'
        have hb3 := grown_below (hown3.alloc _) hgrow (by simp; omega)
        obtain ⟨hc3, hf3⟩ := below_cell hb3
        have y0 : w3.cell? ⟨w1.heap.size, 0, none⟩ = some (.int .i64 V') := (hc3 _ _ (by omega)).trans (by go_cell)
        have y1 : w3.cell? ⟨w1.heap.size, 1, none⟩ = some (.int .i64 D') := (hc3 _ _ (by omega)).trans (by go_cell)
        have y2 : w3.cell? ⟨w1.heap.size, 2, none⟩ = some (.bool F') := (hc3 _ _ (by omega)).trans (by go_cell)
        have j0 : w3.frozen? ⟨w1.heap.size, 0, none⟩ = false := (hf3 _ _ (by omega)).trans (by simp [go_sem, g0, hz3])
        have j1 : w3.frozen? ⟨w1.heap.size, 1, none⟩ = false := (hf3 _ _ (by omega)).trans (by simp [go_sem, g1, hz3])
        have j2 : w3.frozen? ⟨w1.heap.size, 2, none⟩ = false := (hf3 _ _ (by omega)).trans (by simp [go_sem, g2, hz3])
        have bl3 : Below w1.heap.size w1 w3 := (show Below w1.heap.size w1 _ from by go_grown).trans (hb3.mono (by omega))
        have sz3 : w1.heap.size + 1 ≤ w3.heap.size := by have := hgrow.size; simp at this; omega
        clear hb3 hc3 hf3 hgrow hown3 hbl2 e0 e1 e2 g0 g1 g2
        have R := Lib.hid (And.intro hown' (And.intro y0 (And.intro y1 (And.intro y2 (And.intro j0 (And.intro j1 (And.intro j2 (And.intro bl3 sz3))))))))
        clear hown' y0 y1 y2 j0 j1 j2 bl3 sz3
        go_wp2
        go_roundw
        case rel =>
          obtain ⟨r0, r1, r2, r3, r4, r5, r6, r7, r8⟩ := R.out
          obtain ⟨v1, v2, v3⟩ := EF.out
          rw [v1] at r1
          rw [v3, v2] at r3
          rw [v2] at r2
          exact ⟨k + 1, by omega, by go_num, r0, r1, r2, r3, r4, r5, r6, r7, r8⟩
        case measure => simp [intOf]; omega
    · obtain rfl : k = len := by omega
      go_wp2
      go_ret2
      refine ⟨_, rfl, own_mono hown (by omega), ?_⟩
      exact hb1.trans (hbl.mono hs1)
theorem own_form {w : World} {base : Nat} {e : TypeId} {size : Nat} {v : Value} {n : Nat} {xs : List Value} (h : w.ownsRow base e size v n xs) (hn : 0 < n) :
    ∃ g cap, v = .slice (some ⟨g, 0, none⟩) n cap ∧ base ≤ g ∧ g < w.heap.size ∧ n ≤ cap ∧ cap ≤ maxLen ∧ ∀ j u, xs[j]? = some u → w.cell? ⟨g, j, none⟩ = some u := by
  rcases h.2 with ⟨_, h0⟩ | ⟨g, cap, cur, rfl, hb, hh, hnc, hm, hcur, htake⟩
  · omega
  · refine ⟨g, cap, rfl, hb, (Array.getElem?_eq_some_iff.1 hh).1, hnc, hm, fun j u hj => ?_⟩
    have := h.cells (g := g) rfl j u hj
    rw [WideShapes.add_plain] at this
    simpa using this
def fa (i : Nat) : Int := if i = 0 then 500 else if i = 1 then 500 else 600
def ga (i : Nat) : Int := if i = 0 then 250 else 100
def fb (i : Nat) : Int := 500
def gb (i : Nat) : Int := if i = 1 then 100 else 250
theorem stsA : sts fa ga 4 = [.int .i64 500, .int .i64 0, .bool false, .int .i64 200, .int .i64 1, .bool false, .int .i64 200, .int .i64 2, .bool false, .int .i64 200, .int .i64 3, .bool true] := by kernel_rfl
theorem stsB : sts fb gb 3 = [.int .i64 500, .int .i64 0, .bool false, .int .i64 200, .int .i64 1, .bool false, .int .i64 500, .int .i64 0, .bool false] := by kernel_rfl
theorem awake6 (w : World) : Calls Try.prog 6 #[] w fun e w' => e = .returned (.bool true) ∧ Below w.heap.size w w' := by
  go_enter Try.func6, Try.ntmps6
  go_wp2_with fail
  refine (run12 (some ⟨w.heap.size, 0, none⟩) 4 4 fa ga _ ?_ (by omega)).mono ?_
  · exact fun _ => ⟨_, _, rfl, by simp, fun i hi => by
      match i, hi with
      | 0, _ => exact ⟨show _ = some (Value.int .i64 500) by go_cell, show _ = some (Value.int .i64 250) by go_cell⟩
      | 1, _ => exact ⟨show _ = some (Value.int .i64 500) by go_cell, show _ = some (Value.int .i64 100) by go_cell⟩
      | 2, _ => exact ⟨show _ = some (Value.int .i64 600) by go_cell, show _ = some (Value.int .i64 100) by go_cell⟩
      | 3, _ => exact ⟨show _ = some (Value.int .i64 600) by go_cell, show _ = some (Value.int .i64 100) by go_cell⟩⟩
  rintro r w1 ⟨v, rfl, hown, hb1⟩
  have hg1 := chain (w := w) (by go_grown) hb1
  rw [stsA] at hown
  obtain ⟨g, cap, rfl, hbg, hgl, hc, hm, hcell⟩ := own_form hown (by omega)
  have a0 := hcell 3 _ rfl
  have a1 := hcell 11 _ rfl
  have a2 := hcell 9 _ rfl
  have hgl := hgl
  clear hown hcell hb1
  go_wp2_with fail
  refine (run12 (some ⟨w1.heap.size, 0, none⟩) 3 3 fb gb _ ?_ (by omega)).mono ?_
  · exact fun _ => ⟨_, _, rfl, by simp, fun i hi => by
      match i, hi with
      | 0, _ => exact ⟨show _ = some (Value.int .i64 500) by go_cell, show _ = some (Value.int .i64 250) by go_cell⟩
      | 1, _ => exact ⟨show _ = some (Value.int .i64 500) by go_cell, show _ = some (Value.int .i64 100) by go_cell⟩
      | 2, _ => exact ⟨show _ = some (Value.int .i64 500) by go_cell, show _ = some (Value.int .i64 250) by go_cell⟩⟩
  rintro r w2 ⟨v, rfl, hown, hb2⟩
  have zz1 := hg1.size
  have hg2 := chain (w := w) (by go_grown) hb2
  rw [stsB] at hown
  obtain ⟨g', cap', rfl, hbg', hgl', hc', hm', hcell⟩ := own_form hown (by omega)
  obtain ⟨hc2, _⟩ := bcell hb2
  have b0 := hcell 6 _ rfl
  have b1 := hcell 7 _ rfl
  have b2 := hcell 8 _ rfl
  have a0 := (hc2 _ _ (by simp; omega)).trans ((World.cell?_alloc_lt _ _ _ (by simpa using hgl)).trans a0)
  have a1 := (hc2 _ _ (by simp; omega)).trans ((World.cell?_alloc_lt _ _ _ (by simpa using hgl)).trans a1)
  have a2 := (hc2 _ _ (by simp; omega)).trans ((World.cell?_alloc_lt _ _ _ (by simpa using hgl)).trans a2)
  clear hown hcell hb2 hc2
  go_wp2
  all_goals (go_ret; exact ⟨rfl, hg2⟩)
end Go.Proofs.Ytpkeghklfbpmhaa
