import Derived.Test.YtafeblmddhlcaaaR1
import Derived.Deep.RegionHeld3
set_option linter.unusedVariables false
namespace Go.Proofs.Ytafeblmddhlcaaa
open Go.RowKit
theorem keepR {P I L H S x : Int} {w w1 W W2 : World} {b o : Nat} {v : Value} {k : Nat} {xs : List Value}
    (h : W.cell? ⟨w1.heap.size, 0, none⟩ = some (.int .i64 S) ∧ W.cell? ⟨w.heap.size, 0, none⟩ = some (.int .i64 P) ∧ W.cell? ⟨w.heap.size, 1, none⟩ = some (.int .i64 I) ∧ W.cell? ⟨w.heap.size, 2, none⟩ = some (.int .i64 L) ∧ W.cell? ⟨w.heap.size, 3, none⟩ = some (.int .i64 H) ∧
      W.cell? ⟨b, o, none⟩ = some (.int .i64 x) ∧ W.frozen? ⟨w1.heap.size, 0, none⟩ = false ∧ Below w1.heap.size w1 W ∧ w1.heap.size < W.heap.size ∧ w.heap.size < w1.heap.size ∧ b < w1.heap.size ∧ W.ownsRow (w1.heap.size + 1) 3 1 v k xs)
    (hb : Below W.heap.size W W2) :
    W2.cell? ⟨w1.heap.size, 0, none⟩ = some (.int .i64 S) ∧ W2.cell? ⟨w.heap.size, 0, none⟩ = some (.int .i64 P) ∧ W2.cell? ⟨w.heap.size, 1, none⟩ = some (.int .i64 I) ∧ W2.cell? ⟨w.heap.size, 2, none⟩ = some (.int .i64 L) ∧ W2.cell? ⟨w.heap.size, 3, none⟩ = some (.int .i64 H) ∧
      W2.cell? ⟨b, o, none⟩ = some (.int .i64 x) ∧ W2.frozen? ⟨w1.heap.size, 0, none⟩ = false ∧ Below w1.heap.size w1 W2 ∧ w1.heap.size < W2.heap.size ∧ w.heap.size < w1.heap.size ∧ b < w1.heap.size ∧ W2.ownsRow (w1.heap.size + 1) 3 1 v k xs := by
  obtain ⟨h0, h1, h2, h3, h4, h5, h6, h7, h8, h9, h10, h11⟩ := h
  obtain ⟨hc, hf⟩ := bcell hb
  have := hb.size
  exact ⟨(hc _ _ h8).trans h0, (hc _ _ (by omega)).trans h1, (hc _ _ (by omega)).trans h2, (hc _ _ (by omega)).trans h3, (hc _ _ (by omega)).trans h4, (hc _ _ (by omega)).trans h5, (hf _ _ h8).trans h6, h7.trans (hb.mono (Nat.le_of_lt h8)), by omega, h9, h10, own_below h11 hb⟩
theorem frz_set_alloc {W : World} {a : Addr} {u : Value} {o : Obj} (h : a.block < W.heap.size) : ((W.setCell a u).alloc o).frozen? a = W.frozen? a := by
  have h1 := ((Below.refl (W.setCell a u).heap.size (W.setCell a u)).alloc (Nat.le_refl _) o).frozen (p := a) (by simpa using h)
  rw [h1]; simp [go_sem]
theorem cell_set_alloc {W : World} {a : Addr} {u v : Value} {o : Obj} (h : W.cell? a = some v) : ((W.setCell a u).alloc o).cell? a = some u := by
  have hl := (cell_lt h).1
  have h1 := ((Below.refl (W.setCell a u).heap.size (W.setCell a u)).alloc (Nat.le_refl _) o).cell (p := a) (by simpa using hl)
  rw [h1]; simp [go_sem, h]
theorem keepS {P I L H S x : Int} {w w1 W : World} {b o n : Nat} {v u : Value} {k : Nat} {xs : List Value}
    (h : W.cell? ⟨w1.heap.size, 0, none⟩ = some (.int .i64 S) ∧ W.cell? ⟨w.heap.size, 0, none⟩ = some (.int .i64 P) ∧ W.cell? ⟨w.heap.size, 1, none⟩ = some (.int .i64 I) ∧ W.cell? ⟨w.heap.size, 2, none⟩ = some (.int .i64 L) ∧ W.cell? ⟨w.heap.size, 3, none⟩ = some (.int .i64 H) ∧
      W.cell? ⟨b, o, none⟩ = some (.int .i64 x) ∧ W.frozen? ⟨w1.heap.size, 0, none⟩ = false ∧ Below w1.heap.size w1 W ∧ w1.heap.size < W.heap.size ∧ w.heap.size < w1.heap.size ∧ b < w1.heap.size ∧ W.ownsRow (w1.heap.size + 1) 3 1 v k xs)
    (hn : w1.heap.size < n) (hne : v.ownBlock = none ∨ v.ownBlock ≠ some n) :
    (W.setCell ⟨n, 0, none⟩ u).cell? ⟨w1.heap.size, 0, none⟩ = some (.int .i64 S) ∧ (W.setCell ⟨n, 0, none⟩ u).cell? ⟨w.heap.size, 0, none⟩ = some (.int .i64 P) ∧ (W.setCell ⟨n, 0, none⟩ u).cell? ⟨w.heap.size, 1, none⟩ = some (.int .i64 I) ∧ (W.setCell ⟨n, 0, none⟩ u).cell? ⟨w.heap.size, 2, none⟩ = some (.int .i64 L) ∧ (W.setCell ⟨n, 0, none⟩ u).cell? ⟨w.heap.size, 3, none⟩ = some (.int .i64 H) ∧
      (W.setCell ⟨n, 0, none⟩ u).cell? ⟨b, o, none⟩ = some (.int .i64 x) ∧ (W.setCell ⟨n, 0, none⟩ u).frozen? ⟨w1.heap.size, 0, none⟩ = false ∧ Below w1.heap.size w1 (W.setCell ⟨n, 0, none⟩ u) ∧ w1.heap.size < (W.setCell ⟨n, 0, none⟩ u).heap.size ∧ w.heap.size < w1.heap.size ∧ b < w1.heap.size ∧ (W.setCell ⟨n, 0, none⟩ u).ownsRow (w1.heap.size + 1) 3 1 v k xs := by
  obtain ⟨h0, h1, h2, h3, h4, h5, h6, h7, h8, h9, h10, h11⟩ := h
  have hb : Below n W (W.setCell ⟨n, 0, none⟩ u) := (Below.refl n W).setCell (Nat.le_refl _) u
  obtain ⟨hc, hf⟩ := below_cell hb
  exact ⟨(hc _ _ hn).trans h0, (hc _ _ (by omega)).trans h1, (hc _ _ (by omega)).trans h2, (hc _ _ (by omega)).trans h3, (hc _ _ (by omega)).trans h4, (hc _ _ (by omega)).trans h5, (hf _ _ hn).trans h6, h7.trans (hb.mono (Nat.le_of_lt hn)), by simpa using h8, h9, h10,
    h11.kept (row := some n) ⟨rfl, rfl, rfl, by simp [World.setCell], fun i hi hne' => Below.heap_setCell W ⟨n, 0, none⟩ u i (fun e => hne' (by rw [e]))⟩ hne⟩
set_option maxHeartbeats 1000000 in
theorem run18 (P I L H t : Int) (A : Option Addr) (len cap : Nat) (f : Nat → Int) (w : World) (hs : Ints .i64 w A len f) (hl : len ≤ 9223372036854775807) :
    Calls Try.prog 18 #[.agg #[.int .i64 P, .int .i64 I, .int .i64 L, .int .i64 H], .int .i64 t, .slice A len cap] w (RunPost (runE P I L H t f len) len (outs P I L H t f len) w) := by
  obtain ⟨i0, hi, hz0, hz1, hz2⟩ := info_parts info3
  have HS := Lib.hid hs
  clear hs
  have key : (gainB P I L H = false ∧ runE P I L H t f len = 1) ∨ (gainB P I L H = true ∧ 1000 < len ∧ runE P I L H t f len = 5) ∨ (gainB P I L H = true ∧ len ≤ 1000 ∧ spd t = false ∧ runE P I L H t f len = 2) ∨ (gainB P I L H = true ∧ len ≤ 1000 ∧ spd t = true ∧ runE P I L H t f len = lpE P I L H t f len) := by
    unfold runE
    cases gainB P I L H
    · simp
    · by_cases h : 1000 < len
      · simp [h]
      · cases spd t <;> simp [h] <;> omega
  obtain ⟨E, hE⟩ : ∃ E, E = runE P I L H t f len := ⟨_, rfl⟩
  rw [← hE] at key ⊢
  go_enter Try.func18, Try.ntmps18
  go_wp2_with fail
  refine (gain26 _ _ _ _ _).mono ?_
  rintro r w1 ⟨rfl, hb1⟩
  have hg1 := chain (w := w) (by go_grown) hb1
  have hc1 := (bcell hb1).1
  have sz1 := hb1.size
  simp at sz1
  have q1 : w1.cell? ⟨w.heap.size, 0, none⟩ = some (.int .i64 P) := (hc1 _ _ (by simp)).trans (by go_cell)
  have q2 : w1.cell? ⟨w.heap.size, 1, none⟩ = some (.int .i64 I) := (hc1 _ _ (by simp)).trans (by go_cell)
  have q3 : w1.cell? ⟨w.heap.size, 2, none⟩ = some (.int .i64 L) := (hc1 _ _ (by simp)).trans (by go_cell)
  have q4 : w1.cell? ⟨w.heap.size, 3, none⟩ = some (.int .i64 H) := (hc1 _ _ (by simp)).trans (by go_cell)
  clear hc1 hb1 hE
  rcases key with ⟨h1, rfl⟩ | ⟨h1, h2, rfl⟩ | ⟨h1, h2, h3, rfl⟩ | ⟨h1, h2, h3, h4⟩
  case inr.inr.inr =>
    have H4 := Lib.hid h4
    clear h4
    go_wp2_with (first | (go_at_call 22; refine (speedy22 _ _).mono ?_; rintro r w2 ⟨rfl, rfl⟩) | fail)
    go_loopw [9, 10] (fun v i wr => ∃ (k : Nat) (S : Int), k ≤ len ∧ i = .int .i64 k ∧ wr.ownsRow (w1.heap.size + 1) 3 1 v k (outs P I L H t f k) ∧ Hid (S = rnS P I L H t f k ∧ lpE P I L H t f k = 0) ∧ wr.cell? ⟨w1.heap.size, 0, none⟩ = some (.int .i64 S) ∧ wr.frozen? ⟨w1.heap.size, 0, none⟩ = false ∧ Below w1.heap.size w1 wr ∧ w1.heap.size + 1 ≤ wr.heap.size)
      (fun _ i _ => len - (intOf i).toNat)
    case atStart => exact ⟨0, 0, Nat.zero_le _, rfl, World.ownsRow_nil _ _ _ _, ⟨rfl, rfl⟩, by go_cell, by simp [go_sem], by go_grown, by simp⟩
    case round =>
      obtain ⟨k, S, hk, rfl, hown, HK, c0, f0, hbl, hsz⟩ := hrel
      by_cases hlt : k < len
      · obtain ⟨b, off, rfl, hb, hcell⟩ := HS.out (by omega)
        have d0 := hcell k hlt
        have hcb := (bcell hbl).1
        have d0 := (hcb b (off + k) (by omega)).trans (((bcell hg1).1 _ _ hb).trans d0)
        have q1 := (hcb _ _ (by omega)).trans q1
        have q2 := (hcb _ _ (by omega)).trans q2
        have q3 := (hcb _ _ (by omega)).trans q3
        have q4 := (hcb _ _ (by omega)).trans q4
        clear hcell hcb
        obtain ⟨x, hx⟩ : ∃ x, x = f k := ⟨_, rfl⟩
        rw [← hx] at d0
        have A := fun w => step16 P I L H S t x w
        obtain ⟨S', hS'⟩ : ∃ X, X = stS P I L H S t x := ⟨_, rfl⟩
        obtain ⟨U, hU⟩ : ∃ X, X = stU P I L H S t x := ⟨_, rfl⟩
        obtain ⟨e, he⟩ : ∃ X, X = stE P I L H S t x := ⟨_, rfl⟩
        rw [← hS', ← hU, ← he] at A
        have A := Lib.hid A
        have e1 : S' = rnS P I L H t f (k + 1) := by rw [hS', hx, HK.out.1]; rfl
        have e2 : U = rnU P I L H t f k := by rw [hU, hx, HK.out.1]; rfl
        have e3 : e = rnE P I L H t f k := by rw [he, hx, HK.out.1]; rfl
        have eo := outs_succ P I L H t f k
        rw [← e2] at eo
        have HE := Lib.hid (And.intro e1 (And.intro e3 eo))
        obtain ⟨xs, hxs⟩ : ∃ xs, xs = outs P I L H t f k := ⟨_, rfl⟩
        rw [← hxs] at hown
        have HX := Lib.hid hxs
        clear hx hS' hU he e1 e2 e3 eo hxs
        have hlz : w1.heap.size < wr.heap.size := by omega
        have hbw : b < w1.heap.size := by omega
        have hww : w.heap.size < w1.heap.size := by omega
        have hne : u9.ownBlock = none ∨ u9.ownBlock ≠ some wr.heap.size := .inr fun h => Nat.lt_irrefl _ (own_lt hown _ h)
        go_wp2_with fail
        go_region_held3 (fun W => W.cell? ⟨w1.heap.size, 0, none⟩ = some (.int .i64 S) ∧ W.cell? ⟨w.heap.size, 0, none⟩ = some (.int .i64 P) ∧ W.cell? ⟨w.heap.size, 1, none⟩ = some (.int .i64 I) ∧ W.cell? ⟨w.heap.size, 2, none⟩ = some (.int .i64 L) ∧ W.cell? ⟨w.heap.size, 3, none⟩ = some (.int .i64 H) ∧
            W.cell? ⟨b, off + k, none⟩ = some (.int .i64 x) ∧ W.frozen? ⟨w1.heap.size, 0, none⟩ = false ∧ Below w1.heap.size w1 W ∧ w1.heap.size < W.heap.size ∧ w.heap.size < w1.heap.size ∧ b < w1.heap.size ∧ W.ownsRow (w1.heap.size + 1) 3 1 u9 k xs)
          (first | exact ⟨c0, q1, q2, q3, q4, d0, f0, hbl.drew, hlz, hww, hbw, hown⟩ | assumption | (refine keepR (P := P) (I := I) (L := L) (H := H) (S := S) (x := x) (w := w) (w1 := w1) (b := b) (o := off + k) (v := u9) (k := k) (xs := xs) (W := wr) ⟨c0, q1, q2, q3, q4, d0, f0, hbl, hlz, hww, hbw, hown⟩ ?_; exact ((Below.refl _ _).alloc (Nat.le_refl _) _).drew) | (refine keepR (P := P) (I := I) (L := L) (H := H) (S := S) (x := x) (w := w) (w1 := w1) (b := b) (o := off + k) (v := u9) (k := k) (xs := xs) (W := w2) ?_ ?_; assumption; exact (Below.refl _ _).alloc (Nat.le_refl _) _) | exact keepR hS2 ((Below.refl _ _).alloc (Nat.le_refl _) _) | exact keepS hS2 hlz hne)
          (first | (go_at_call 16; (with_reducible refine (A.out (wr.alloc (.cells #[.int .i64 0] 32)).drew).mono ?_); rintro r w2 ⟨rfl, hb2⟩; have hS2 := keepR (P := P) (I := I) (L := L) (H := H) (S := S) (x := x) (w := w) (w1 := w1) (b := b) (o := off + k) (v := u9) (k := k) (xs := xs) (by assumption) hb2; have a1 : w2.cell? ⟨wr.heap.size, 0, none⟩ = some (.int .i64 0) := ((bcell hb2).1 wr.heap.size 0 (by simp)).trans (by go_cell); have a2 : w2.frozen? ⟨wr.heap.size, 0, none⟩ = false := ((bcell hb2).2 wr.heap.size 0 (by simp)).trans (by simp [go_sem])) | (go_at_call 16; refine (A.out _).mono ?_; rintro r w2 ⟨rfl, hb2⟩; have hS2 := keepR (P := P) (I := I) (L := L) (H := H) (S := S) (x := x) (w := w) (w1 := w1) (b := b) (o := off + k) (v := u9) (k := k) (xs := xs) (by assumption) hb2))
        all_goals
          rename_i hh
          obtain ⟨c0, q1, q2, q3, q4, d0, f0, hbl, hlz, hw1, hw2, hown⟩ := hh
          by_cases he0 : e = 0
          · subst he0
            have HO := Lib.hid (fun o => (ownsRow_setCell_below hown (a := ⟨w1.heap.size, 0, none⟩) (by simp) (.int .i64 S')).alloc o)
            have HB := Lib.hid hbl
            have HW := Lib.hid hown
            clear hown hbl hS2
            go_wp2_with (at_builtin; refine wpList_append_own _ rfl _ _ 41 rfl (w1.heap.size + 1) 3 i0 (.int .i64 0) 1 8 Try.underlying41 hi hz0 hz1 hz2 rfl (by decide) _ _ _ rfl (HO.out _) _ 1 1 [.int .i64 U] rfl rfl ?_ ?_ ?_ ?_ ?_ ?_)
            case refine_1 => exact cells_new (by simp) _ _
            case refine_2 => intro u hu; simp at hu; subst hu; rfl
            case refine_3 => unfold maxLen; omega
            case refine_4 => omega
            case refine_5 => simp at hlz ⊢; omega
            case refine_6 =>
              intro v' w3 hown' hgrow _
              rw [HX.out, ← HE.out.2.2] at hown'
              have hb3 := grown_below (HO.out _) hgrow (by first | omega | (simp; omega) | (simp at hlz ⊢; omega))
              have y0 : w3.cell? ⟨w1.heap.size, 0, none⟩ = some (.int .i64 S') := ((below_cell hb3).1 _ _ (by omega)).trans (cell_set_alloc c0)
              have y1 : w3.frozen? ⟨w1.heap.size, 0, none⟩ = false := ((below_cell hb3).2 _ _ (by omega)).trans ((frz_set_alloc hlz).trans f0)
              have hbl' := HB.out.setCell (p := ⟨w1.heap.size, 0, none⟩) (Nat.le_refl _) (.int .i64 S')
              have bl3 : Below w1.heap.size w1 w3 := (hbl'.alloc hbl'.size _).trans (hb3.mono (by omega))
              have sz3 : w1.heap.size + 1 ≤ w3.heap.size := by have := hgrow.size; (first | (simp at this hlz; omega) | (simp at this; omega))
              have R := Lib.hid (And.intro hown' (And.intro y0 (And.intro y1 (And.intro bl3 sz3))))
              clear hb3 hgrow hbl' c0 f0 HO HB HW hown' y0 y1 bl3 sz3
              go_wp2
              go_roundw
              case rel =>
                obtain ⟨r0, r1, r2, r3, r4⟩ := R.out
                refine ⟨k + 1, S', by omega, by go_num, r0, ⟨HE.out.1, ?_⟩, r1, r2, r3, r4⟩
                show (if lpE P I L H t f k = 0 then rnE P I L H t f k else lpE P I L H t f k) = 0
                rw [if_pos HK.out.2]; exact HE.out.2.1.symm
              case measure => simp [intOf]; omega
          · have hbe : (e != 0) = true := by simp [he0]
            have HB := Lib.hid hbl
            clear hown hbl hS2
            go_wp2
            go_ret2
            have hE : E = e := by
              rw [H4.out, HE.out.2.1]
              exact lpE_stop HK.out.2 (by rw [← HE.out.2.1]; exact he0) len hlt
            subst hE
            exact ⟨_, rfl, .inr ⟨he0, rfl⟩, chain hg1 HB.out⟩
      · obtain rfl : k = len := by omega
        go_wp2
        go_ret2
        obtain rfl : E = 0 := by rw [H4.out]; exact HK.out.2
        exact ⟨_, rfl, .inl ⟨rfl, own_mono hown (by omega)⟩, hg1.trans (hbl.mono (by omega))⟩
  all_goals
    go_wp2_with (first | (go_at_call 22; refine (speedy22 _ _).mono ?_; rintro r w2 ⟨rfl, rfl⟩) | fail)
    go_ret2
    exact ⟨_, rfl, .inr ⟨by omega, rfl⟩, by first | exact hg1 | go_grown⟩
end Go.Proofs.Ytafeblmddhlcaaa
