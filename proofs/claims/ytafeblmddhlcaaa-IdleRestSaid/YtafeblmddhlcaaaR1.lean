import Derived.Test.YtafeblmddhlcaaaOwn
set_option linter.unusedVariables false
namespace Go.Proofs.Ytafeblmddhlcaaa
open Go.RowKit
/-- the sum before speed k -/
def rnS (P I L H t : Int) (f : Nat → Int) : Nat → Int
  | 0 => 0
  | k + 1 => stS P I L H (rnS P I L H t f k) t (f k)
def rnU (P I L H t : Int) (f : Nat → Int) (k : Nat) : Int := stU P I L H (rnS P I L H t f k) t (f k)
def rnE (P I L H t : Int) (f : Nat → Int) (k : Nat) : Int := stE P I L H (rnS P I L H t f k) t (f k)
def lpE (P I L H t : Int) (f : Nat → Int) : Nat → Int
  | 0 => 0
  | k + 1 => if lpE P I L H t f k = 0 then rnE P I L H t f k else lpE P I L H t f k
theorem lpE_stop {P I L H t : Int} {f : Nat → Int} {k : Nat} (h0 : lpE P I L H t f k = 0) (h : rnE P I L H t f k ≠ 0) : ∀ n, k < n → lpE P I L H t f n = rnE P I L H t f k
  | 0, hn => absurd hn (Nat.not_lt_zero _)
  | n + 1, hn => by
    show (if lpE P I L H t f n = 0 then rnE P I L H t f n else lpE P I L H t f n) = _
    by_cases e : k = n
    · subst e; rw [if_pos h0]
    · have := lpE_stop h0 h n (by omega)
      rw [this, if_neg h]
def runE (P I L H t : Int) (f : Nat → Int) (len : Nat) : Int := if gainB P I L H = false then 1 else if 1000 < len then 5 else if spd t = false then 2 else lpE P I L H t f len
def outs (P I L H t : Int) (f : Nat → Int) (n : Nat) : List Value := (List.range n).map fun k => .int .i64 (rnU P I L H t f k)
theorem outs_succ (P I L H t : Int) (f : Nat → Int) (n : Nat) : outs P I L H t f (n + 1) = outs P I L H t f n ++ [.int .i64 (rnU P I L H t f n)] := by
  unfold outs; rw [List.range_succ, List.map_append]; rfl
def RunPost (E : Int) (len : Nat) (xs : List Value) (w : World) (r : Ending) (w' : World) : Prop :=
  ∃ v, r = .returned (.tuple #[v, .int .i64 E]) ∧ ((E = 0 ∧ w'.ownsRow w.heap.size 3 1 v len xs) ∨ (E ≠ 0 ∧ v = .slice none 0 0)) ∧ Below w.heap.size w w'
theorem info3 : (Try.prog.info? 3).map (fun i => (i.zero, i.size, i.bytes)) = some (some (.int .i64 0), 1, 8) := by kernel_rfl
set_option maxHeartbeats 1000000 in
theorem run17 (P I L H t : Int) (A : Option Addr) (len cap : Nat) (f : Nat → Int) (w : World) (hs : Ints .i64 w A len f) (hl : len ≤ 9223372036854775807) :
    Calls Try.prog 17 #[.agg #[.int .i64 P, .int .i64 I, .int .i64 L, .int .i64 H], .int .i64 t, .slice A len cap] w (RunPost (runE P I L H t f len) len (outs P I L H t f len) w) := by
  obtain ⟨i0, hi, hz0, hz1, hz2⟩ := info_parts info3
  have HS := Lib.hid hs
  clear hs
  have key : (gainB P I L H = false ∧ runE P I L H t f len = 1) ∨ (gainB P I L H = true ∧ 1000 < len ∧ runE P I L H t f len = 5) ∨ (gainB P I L H = true ∧ len ≤ 1000 ∧ spd t = false ∧ runE P I L H t f len = 2) ∨ (gainB P I L H = true ∧ len ≤ 1000 ∧ spd t = true ∧ runE P I L H t f len = lpE P I L H t f len) := by
    unfold runE
    cases gainB P I L H
    · simp
    · by_cases h : 1000 < len
      · simp [h]
      · cases spd t <;> simp [h] <;> omega
  obtain ⟨E, hE⟩ : ∃ E, E = runE P I L H t f len := ⟨_, rfl⟩
  rw [← hE] at key ⊢
  go_enter Try.func17, Try.ntmps17
  go_wp2_with fail
  refine (gain24 _ _ _ _ _).mono ?_
  rintro r w1 ⟨rfl, hb1⟩
  have hg1 := chain (w := w) (by go_grown) hb1
  have hc1 := (bcell hb1).1
  have sz1 := hb1.size
  simp at sz1
  have q1 : w1.cell? ⟨w.heap.size, 0, none⟩ = some (.int .i64 P) := (hc1 _ _ (by simp)).trans (by go_cell)
  have q2 : w1.cell? ⟨w.heap.size, 1, none⟩ = some (.int .i64 I) := (hc1 _ _ (by simp)).trans (by go_cell)
  have q3 : w1.cell? ⟨w.heap.size, 2, none⟩ = some (.int .i64 L) := (hc1 _ _ (by simp)).trans (by go_cell)
  have q4 : w1.cell? ⟨w.heap.size, 3, none⟩ = some (.int .i64 H) := (hc1 _ _ (by simp)).trans (by go_cell)
  clear hc1 hb1 hE
  rcases key with ⟨h1, rfl⟩ | ⟨h1, h2, rfl⟩ | ⟨h1, h2, h3, rfl⟩ | ⟨h1, h2, h3, h4⟩
  case inr.inr.inr =>
    have H4 := Lib.hid h4
    clear h4
    go_wp2_with (first | (go_at_call 20; refine (speedy20 _ _).mono ?_; rintro r w2 ⟨rfl, rfl⟩) | fail)
    go_loopw [8, 26] (fun v i wr => ∃ (k : Nat) (S : Int), k ≤ len ∧ i = .int .i64 k ∧ wr.ownsRow (w1.heap.size + 1) 3 1 v k (outs P I L H t f k) ∧ Hid (S = rnS P I L H t f k ∧ lpE P I L H t f k = 0) ∧ wr.cell? ⟨w1.heap.size, 0, none⟩ = some (.int .i64 S) ∧ wr.frozen? ⟨w1.heap.size, 0, none⟩ = false ∧ Below w1.heap.size w1 wr ∧ w1.heap.size + 1 ≤ wr.heap.size)
      (fun _ i _ => len - (intOf i).toNat)
    case atStart => exact ⟨0, 0, Nat.zero_le _, rfl, World.ownsRow_nil _ _ _ _, ⟨rfl, rfl⟩, by go_cell, by simp [go_sem], by go_grown, by simp⟩
    case round =>
      obtain ⟨k, S, hk, rfl, hown, HK, c0, f0, hbl, hsz⟩ := hrel
      by_cases hlt : k < len
      · obtain ⟨b, off, rfl, hb, hcell⟩ := HS.out (by omega)
        have d0 := hcell k hlt
        have hcb := (bcell hbl).1
        have d0 := (hcb b (off + k) (by omega)).trans (((bcell hg1).1 _ _ hb).trans d0)
        have q1 := (hcb _ _ (by omega)).trans q1
        have q2 := (hcb _ _ (by omega)).trans q2
        have q3 := (hcb _ _ (by omega)).trans q3
        have q4 := (hcb _ _ (by omega)).trans q4
        clear hcell hcb
        obtain ⟨x, hx⟩ : ∃ x, x = f k := ⟨_, rfl⟩
        rw [← hx] at d0
        have A := fun w => step15 P I L H S t x w
        obtain ⟨S', hS'⟩ : ∃ X, X = stS P I L H S t x := ⟨_, rfl⟩
        obtain ⟨U, hU⟩ : ∃ X, X = stU P I L H S t x := ⟨_, rfl⟩
        obtain ⟨e, he⟩ : ∃ X, X = stE P I L H S t x := ⟨_, rfl⟩
        rw [← hS', ← hU, ← he] at A
        have A := Lib.hid A
        have e1 : S' = rnS P I L H t f (k + 1) := by rw [hS', hx, HK.out.1]; rfl
        have e2 : U = rnU P I L H t f k := by rw [hU, hx, HK.out.1]; rfl
        have e3 : e = rnE P I L H t f k := by rw [he, hx, HK.out.1]; rfl
        have eo := outs_succ P I L H t f k
        rw [← e2] at eo
        have HE := Lib.hid (And.intro e1 (And.intro e3 eo))
        obtain ⟨xs, hxs⟩ : ∃ xs, xs = outs P I L H t f k := ⟨_, rfl⟩
        rw [← hxs] at hown
        have HX := Lib.hid hxs
        clear hx hS' hU he e1 e2 e3 eo hxs
        have hlz : w1.heap.size < wr.heap.size := by omega
        go_wp2_with fail
        refine (A.out _).mono ?_
        rintro r w2 ⟨rfl, hb2⟩
        have hc2 := (bcell hb2).1
        have hf2 := (bcell hb2).2
        have sz2 := hb2.size
        have c0 := (hc2 _ _ hlz).trans c0
        have f0 := (hf2 _ _ hlz).trans f0
        have hown2 := own_below hown hb2
        have bl2 := hbl.trans (hb2.mono (Nat.le_of_lt hlz))
        have z2 : w1.heap.size < w2.heap.size := by omega
        clear hc2 hf2 hb2 hown hbl A
        by_cases he0 : e = 0
        · subst he0
          have hownA := ((hown2.alloc (.cells #[.int .i64 S'] 32)).alloc (.cells #[.int .i64 U] 3))
          go_wp2_with (at_builtin; refine wpList_append_own _ rfl _ _ 41 rfl (w1.heap.size + 1) 3 i0 (.int .i64 0) 1 8 Try.underlying41 hi hz0 hz1 hz2 rfl (by decide) _ _ _ rfl hownA ⟨w2.heap.size + 1, 0, none⟩ 1 1 [.int .i64 U] rfl rfl ?c1 ?c2 ?c3 ?c4 ?c5 ?_)
          case c1 => exact cells_new (by simp) _ _
          case c2 => intro u hu; simp at hu; subst hu; rfl
          case c3 => unfold maxLen; omega
          case c4 => omega
          case c5 => simp; omega
          · intro v' w3 hown' hgrow _
            rw [HX.out, ← HE.out.2.2] at hown'
            have hb3 := grown_below hownA hgrow (by simp; omega)
            have y0 : w3.cell? ⟨w1.heap.size, 0, none⟩ = some (.int .i64 S) := ((below_cell hb3).1 _ _ (by omega)).trans (by go_cell)
            have y1 : w3.frozen? ⟨w1.heap.size, 0, none⟩ = false := ((below_cell hb3).2 _ _ (by omega)).trans (by simp [go_sem, f0, z2])
            have hne : some w2.heap.size ≠ u8.ownBlock := fun h => by have := own_lt hown2 _ h.symm; omega
            have y2 : w3.cell? ⟨w2.heap.size, 0, none⟩ = some (.int .i64 S') := (grown_cell hgrow (by simp; omega) hne 0).1.trans (by go_cell)
            have bl3 : Below w1.heap.size w1 w3 := (show Below w1.heap.size w1 _ from by go_grown).trans (hb3.mono (by omega))
            have sz3 : w1.heap.size + 1 ≤ w3.heap.size := by have := hgrow.size; simp at this; omega
            clear hb3 hgrow hown2 hownA c0 f0 bl2 hne
            have R := Lib.hid (And.intro hown' (And.intro y1 (And.intro bl3 sz3)))
            have z3 : w1.heap.size < w3.heap.size := by omega
            clear hown' bl3 sz3
            go_wp2
            go_roundw
            case rel =>
              obtain ⟨r0, r1, r2, r3⟩ := R.out
              refine ⟨k + 1, S', by omega, by go_num, ownsRow_setCell_below r0 (by simp) _, ⟨HE.out.1, ?_⟩, by go_cell, by simp [go_sem, r1], r2.setCell (by simp) _, by simpa using r3⟩
              show (if lpE P I L H t f k = 0 then rnE P I L H t f k else lpE P I L H t f k) = 0
              rw [if_pos HK.out.2]; exact HE.out.2.1.symm
            case measure => simp [intOf]; omega
        · have hbe : (e != 0) = true := by simp [he0]
          go_wp2
          go_ret2
          have hE : E = e := by
            rw [H4.out, HE.out.2.1]
            exact lpE_stop HK.out.2 (by rw [← HE.out.2.1]; exact he0) len hlt
          subst hE
          exact ⟨_, rfl, .inr ⟨he0, rfl⟩, chain hg1 (show Below w1.heap.size w1 _ from by go_grown)⟩
      · obtain rfl : k = len := by omega
        go_wp2
        go_ret2
        obtain rfl : E = 0 := by rw [H4.out]; exact HK.out.2
        exact ⟨_, rfl, .inl ⟨rfl, own_mono hown (by omega)⟩, hg1.trans (hbl.mono (by omega))⟩
  all_goals
    go_wp2_with (first | (go_at_call 20; refine (speedy20 _ _).mono ?_; rintro r w2 ⟨rfl, rfl⟩) | fail)
    go_ret2
    exact ⟨_, rfl, .inr ⟨by omega, rfl⟩, hg1⟩
end Go.Proofs.Ytafeblmddhlcaaa
