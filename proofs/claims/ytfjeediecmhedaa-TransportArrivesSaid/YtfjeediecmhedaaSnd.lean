/-
  The contracts of Next, Control and Expired, and of their references, of a valid sender and a time. No condition but the slices' shape.
-/
import Derived.Test.YtfjeediecmhedaaNext1
import Derived.Test.YtfjeediecmhedaaNext2
import Derived.Test.YtfjeediecmhedaaNext3
import Derived.Test.YtfjeediecmhedaaNext4
import Derived.Test.YtfjeediecmhedaaRNext0
import Derived.Test.YtfjeediecmhedaaRNext1
import Derived.Test.YtfjeediecmhedaaRNext2
import Derived.Test.YtfjeediecmhedaaRNext3
import Derived.Test.YtfjeediecmhedaaRNext4
import Derived.Test.YtfjeediecmhedaaCtl0
import Derived.Test.YtfjeediecmhedaaCtl1
import Derived.Test.YtfjeediecmhedaaRCtl0
import Derived.Test.YtfjeediecmhedaaRCtl1
import Derived.Test.YtfjeediecmhedaaExp
set_option linter.unusedVariables false
set_option linter.unusedSimpArgs false
namespace Go.Proofs.Ytfjeediecmhedaa
open Go.RowKit
theorem kindM_ways3 (f : List Int) : kindM f = 0 ∨ kindM f = 1 ∨ kindM f = 2 ∨ kindM f = 3 ∨ kindM f < 0 := by
  unfold kindM
  repeat' split
  all_goals omega
theorem next28 (A : Option Addr) (n c : Nat) (At Nu Bl Se : Int) (Wt : Bool) (Gp Dl : Int) (Fl : Bool) (l : List Int) (t : Int) (w : World) (hl : l.length = n) (hb : Bt w A l) (hc : n ≤ c) (hv : vS n At Nu Bl Se Wt Gp Dl Fl = true) (ht : timeB t = true) : Calls Try.prog 28 #[.agg #[.slice A n c, .int .i64 At, .int .i64 Nu, .int .i64 Bl, .int .i64 Se, .bool Wt, .int .i64 Gp, .int .i64 Dl, .bool Fl], .int .i64 t] w (S3 (nxtM ⟨l, At, Nu, Bl, Se, Wt, Gp, Dl, Fl⟩ t).1 (nxtM ⟨l, At, Nu, Bl, Se, Wt, Gp, Dl, Fl⟩ t).2.1 (nxtM ⟨l, At, Nu, Bl, Se, Wt, Gp, Dl, Fl⟩ t).2.2 w) := by
  obtain ⟨n0, n1, B0, B1, E0, E1, hBE, N0, N1, G0, G1, D0, D1, hAt⟩ := vS_gen hv
  rcases hAt with ⟨rfl, _, _⟩ | ⟨a0, a1, _⟩
  · have e : nxtM ⟨l, (n : Int), Nu, Bl, Se, Wt, Gp, Dl, Fl⟩ t = (szero, [], 6) := by unfold nxtM; rw [if_pos (Or.inl (by rw [hl]))]
    rw [e]
    exact next28_end A n c Nu Bl Se Wt Gp Dl Fl l t w hv ht
  · cases Fl
    rotate_left 1
    · have e : nxtM ⟨l, At, Nu, Bl, Se, Wt, Gp, Dl, true⟩ t = (szero, [], 6) := by unfold nxtM; rw [if_pos (Or.inr (Or.inl rfl))]
      rw [e]
      exact next28_fl A n c At Nu Bl Se Wt Gp Dl l t w hv ht a1
    cases Wt
    rotate_left 1
    · have e : nxtM ⟨l, At, Nu, Bl, Se, true, Gp, Dl, false⟩ t = (szero, [], 6) := by unfold nxtM; rw [if_pos (Or.inr (Or.inr rfl))]
      rw [e]
      exact next28_wt A n c At Nu Bl Se Gp Dl l t w hv ht a1
    have hneg : ¬ (At = (l.length : Int) ∨ false = true ∨ false = true) := by simp; omega
    by_cases hx : t < Dl
    · have e : nxtM ⟨l, At, Nu, Bl, Se, false, Gp, Dl, false⟩ t = (szero, [], 16) := by unfold nxtM; rw [if_neg hneg, if_pos hx]
      rw [e]
      exact next28_time A n c At Nu Bl Se Gp Dl l t w hv ht a1 hx
    obtain ⟨a, rfl⟩ : ∃ a : Nat, At = a := ⟨At.toNat, by omega⟩
    by_cases h7 : n ≤ a + 7
    · have e : nxtM ⟨l, (a : Int), Nu, Bl, Se, false, Gp, Dl, false⟩ t = (⟨l, n, 0, 0, 0, false, 0, 0, false⟩, pad ((32 + Nu) :: l.drop a), 0) := by
        unfold nxtM
        simp only [hl, Int.toNat_natCast]
        rw [if_neg (by simp; omega), if_neg hx, if_pos h7]
      rw [e]
      exact next28_last A n c a Nu Bl Se Gp Dl l t w hl hb hc hv ht (by omega) (by omega) h7
    have h7e : (((a + 7 : Nat) : Int)) = (a : Int) + 7 := by omega
    by_cases hB : Bl = 0
    · have e : nxtM ⟨l, (a : Int), Nu, Bl, Se, false, Gp, Dl, false⟩ t = (⟨l, ((a + 7 : Nat) : Int), (Nu + 1) % 16, Bl, 0, false, Gp, t + 1000 * Gp, false⟩, pad ((32 + Nu) :: (l.drop a).take 7), 0) := by
        unfold nxtM
        simp only [hl, Int.toNat_natCast]
        rw [if_neg (by simp; omega), if_neg hx, if_neg h7, if_pos hB, h7e]
      rw [e]
      exact next28_free A n c a Nu Bl Se Gp Dl l t w hl hb hc hv ht (by omega) (by omega) (a + 7) rfl (by omega) hB
    by_cases hS : Se + 1 = Bl
    · have e : nxtM ⟨l, (a : Int), Nu, Bl, Se, false, Gp, Dl, false⟩ t = (⟨l, ((a + 7 : Nat) : Int), (Nu + 1) % 16, Bl, 0, true, Gp, t + 1000000, false⟩, pad ((32 + Nu) :: (l.drop a).take 7), 0) := by
        unfold nxtM
        simp only [hl, Int.toNat_natCast]
        rw [if_neg (by simp; omega), if_neg hx, if_neg h7, if_neg hB, if_pos hS, h7e]
      rw [e]
      exact next28_block A n c a Nu Bl Se Gp Dl l t w hl hb hc hv ht (by omega) (by omega) (a + 7) rfl (by omega) hB hS
    · have e : nxtM ⟨l, (a : Int), Nu, Bl, Se, false, Gp, Dl, false⟩ t = (⟨l, ((a + 7 : Nat) : Int), (Nu + 1) % 16, Bl, Se + 1, false, Gp, t + 1000 * Gp, false⟩, pad ((32 + Nu) :: (l.drop a).take 7), 0) := by
        unfold nxtM
        simp only [hl, Int.toNat_natCast]
        rw [if_neg (by simp; omega), if_neg hx, if_neg h7, if_neg hB, if_neg hS, h7e]
      rw [e]
      exact next28_more A n c a Nu Bl Se Gp Dl l t w hl hb hc hv ht (by omega) (by omega) (a + 7) rfl (by omega) hB hS
theorem rnext31 (A : Option Addr) (n c : Nat) (At Nu Bl Se : Int) (Wt : Bool) (Gp Dl : Int) (Fl : Bool) (l : List Int) (t : Int) (w : World) (hl : l.length = n) (hb : Bt w A l) (hc : n ≤ c) (hv : vS n At Nu Bl Se Wt Gp Dl Fl = true) (ht : timeB t = true) : Calls Try.prog 31 #[.agg #[.slice A n c, .int .i64 At, .int .i64 Nu, .int .i64 Bl, .int .i64 Se, .bool Wt, .int .i64 Gp, .int .i64 Dl, .bool Fl], .int .i64 t] w (S3 (nxtM ⟨l, At, Nu, Bl, Se, Wt, Gp, Dl, Fl⟩ t).1 (nxtM ⟨l, At, Nu, Bl, Se, Wt, Gp, Dl, Fl⟩ t).2.1 (nxtM ⟨l, At, Nu, Bl, Se, Wt, Gp, Dl, Fl⟩ t).2.2 w) := by
  obtain ⟨n0, n1, B0, B1, E0, E1, hBE, N0, N1, G0, G1, D0, D1, hAt⟩ := vS_gen hv
  rcases hAt with ⟨rfl, _, _⟩ | ⟨a0, a1, _⟩
  · have e : nxtM ⟨l, (n : Int), Nu, Bl, Se, Wt, Gp, Dl, Fl⟩ t = (szero, [], 6) := by unfold nxtM; rw [if_pos (Or.inl (by rw [hl]))]
    rw [e]
    exact rnext31_end A n c Nu Bl Se Wt Gp Dl Fl l t w
  · cases Fl
    rotate_left 1
    · have e : nxtM ⟨l, At, Nu, Bl, Se, Wt, Gp, Dl, true⟩ t = (szero, [], 6) := by unfold nxtM; rw [if_pos (Or.inr (Or.inl rfl))]
      rw [e]
      exact rnext31_fl A n c At Nu Bl Se Wt Gp Dl l t w a1
    cases Wt
    rotate_left 1
    · have e : nxtM ⟨l, At, Nu, Bl, Se, true, Gp, Dl, false⟩ t = (szero, [], 6) := by unfold nxtM; rw [if_pos (Or.inr (Or.inr rfl))]
      rw [e]
      exact rnext31_wt A n c At Nu Bl Se Gp Dl l t w a1
    have hneg : ¬ (At = (l.length : Int) ∨ false = true ∨ false = true) := by simp; omega
    by_cases hx : t < Dl
    · have e : nxtM ⟨l, At, Nu, Bl, Se, false, Gp, Dl, false⟩ t = (szero, [], 16) := by unfold nxtM; rw [if_neg hneg, if_pos hx]
      rw [e]
      exact rnext31_time A n c At Nu Bl Se Gp Dl l t w a1 hx
    obtain ⟨a, rfl⟩ : ∃ a : Nat, At = a := ⟨At.toNat, by omega⟩
    by_cases h7 : n ≤ a + 7
    · have e : nxtM ⟨l, (a : Int), Nu, Bl, Se, false, Gp, Dl, false⟩ t = (⟨l, n, 0, 0, 0, false, 0, 0, false⟩, pad ((32 + Nu) :: l.drop a), 0) := by
        unfold nxtM
        simp only [hl, Int.toNat_natCast]
        rw [if_neg (by simp; omega), if_neg hx, if_pos h7]
      rw [e]
      exact rnext31_last A n c a Nu Bl Se Gp Dl l t w hl hb hc hv ht (by omega) (by omega) h7
    have h7e : (((a + 7 : Nat) : Int)) = (a : Int) + 7 := by omega
    by_cases hB : Bl = 0
    · have e : nxtM ⟨l, (a : Int), Nu, Bl, Se, false, Gp, Dl, false⟩ t = (⟨l, ((a + 7 : Nat) : Int), (Nu + 1) % 16, Bl, 0, false, Gp, t + 1000 * Gp, false⟩, pad ((32 + Nu) :: (l.drop a).take 7), 0) := by
        unfold nxtM
        simp only [hl, Int.toNat_natCast]
        rw [if_neg (by simp; omega), if_neg hx, if_neg h7, if_pos hB, h7e]
      rw [e]
      exact rnext31_free A n c a Nu Bl Se Gp Dl l t w hl hb hc hv ht (by omega) (by omega) (a + 7) rfl (by omega) hB
    by_cases hS : Se + 1 = Bl
    · have e : nxtM ⟨l, (a : Int), Nu, Bl, Se, false, Gp, Dl, false⟩ t = (⟨l, ((a + 7 : Nat) : Int), (Nu + 1) % 16, Bl, 0, true, Gp, t + 1000000, false⟩, pad ((32 + Nu) :: (l.drop a).take 7), 0) := by
        unfold nxtM
        simp only [hl, Int.toNat_natCast]
        rw [if_neg (by simp; omega), if_neg hx, if_neg h7, if_neg hB, if_pos hS, h7e]
      rw [e]
      exact rnext31_block A n c a Nu Bl Se Gp Dl l t w hl hb hc hv ht (by omega) (by omega) (a + 7) rfl (by omega) hB hS
    · have e : nxtM ⟨l, (a : Int), Nu, Bl, Se, false, Gp, Dl, false⟩ t = (⟨l, ((a + 7 : Nat) : Int), (Nu + 1) % 16, Bl, Se + 1, false, Gp, t + 1000 * Gp, false⟩, pad ((32 + Nu) :: (l.drop a).take 7), 0) := by
        unfold nxtM
        simp only [hl, Int.toNat_natCast]
        rw [if_neg (by simp; omega), if_neg hx, if_neg h7, if_neg hB, if_neg hS, h7e]
      rw [e]
      exact rnext31_more A n c a Nu Bl Se Gp Dl l t w hl hb hc hv ht (by omega) (by omega) (a + 7) rfl (by omega) hB hS
theorem ctl27 (A : Option Addr) (n c : Nat) (At Nu Bl Se : Int) (Wt : Bool) (Gp Dl : Int) (Fl : Bool) (l : List Int) (F : Option Addr) (m cF : Nat) (f : List Int) (t : Int) (w : World) (hl : l.length = n) (hb : Bt w A l) (hc : n ≤ c) (hfl : f.length = m) (hfb : Bt w F f) (hfB : Byt f) (hfc : m ≤ cF) (hv : vS n At Nu Bl Se Wt Gp Dl Fl = true) (ht : timeB t = true) : Calls Try.prog 27 #[.agg #[.slice A n c, .int .i64 At, .int .i64 Nu, .int .i64 Bl, .int .i64 Se, .bool Wt, .int .i64 Gp, .int .i64 Dl, .bool Fl], .slice F m cF, .int .i64 t] w (S2 (ctlM ⟨l, At, Nu, Bl, Se, Wt, Gp, Dl, Fl⟩ f t).1 (ctlM ⟨l, At, Nu, Bl, Se, Wt, Gp, Dl, Fl⟩ f t).2 w) := by
  by_cases hk : kindM f = 3
  rotate_left 1
  · have e : ctlM ⟨l, At, Nu, Bl, Se, Wt, Gp, Dl, Fl⟩ f t = (szero, 3) := by unfold ctlM; rw [if_pos hk]
    rw [e]
    rcases Int.lt_or_le (kindM f) 0 with h | h
    · exact ctl27_none A n c At Nu Bl Se Wt Gp Dl Fl l F m cF f t w hfl hfb hfB hfc hv ht h
    · obtain rfl : m = 8 := by rw [← hfl]; exact kind_len h
      have h4 : kindM f < 3 := by rcases kindM_ways3 f with g | g | g | g | g <;> omega
      exact ctl27_other A n c At Nu Bl Se Wt Gp Dl Fl l F cF f t w (kindM f) hfb hfB hfc rfl h h4 hv ht
  obtain rfl : m = 8 := by rw [← hfl]; exact kind_len (by omega)
  have h0 : ¬ kindM f ≠ 3 := by omega
  cases Wt
  · have e : ctlM ⟨l, At, Nu, Bl, Se, false, Gp, Dl, Fl⟩ f t = (szero, 6) := by unfold ctlM; rw [if_neg h0, if_pos rfl]
    rw [e]
    exact ctl27_state A n c At Nu Bl Se Gp Dl Fl l F cF f t w hfb hfB hfc hk hv ht
  have h1 : ¬ true = false := by decide
  by_cases hx : Dl < t
  · have e : ctlM ⟨l, At, Nu, Bl, Se, true, Gp, Dl, Fl⟩ f t = (szero, 16) := by unfold ctlM; rw [if_neg h0, if_neg h1, if_pos hx]
    rw [e]
    exact ctl27_time A n c At Nu Bl Se Gp Dl Fl l F cF f t w hfb hfB hfc hk hv ht hx
  obtain ⟨_, hlow, _⟩ := kind3 hk
  have hlow0 := (hfB.at 0).1
  rcases (by omega : f.getD 0 0 % 16 = 0 ∨ f.getD 0 0 % 16 = 1 ∨ f.getD 0 0 % 16 = 2) with h | h | h
  · have e : ctlM ⟨l, At, Nu, Bl, Se, true, Gp, Dl, Fl⟩ f t = (⟨l, At, Nu, f.getD 1 0, 0, false, f.getD 2 0, t, Fl⟩, 0) := by unfold ctlM; rw [if_neg h0, if_neg h1, if_neg hx, if_pos h]
    rw [e]
    exact ctl27_cont A n c At Nu Bl Se Gp Dl Fl l F cF f t w hl hb hc hfb hfB hfc hk hv ht (by omega) h
  · have e : ctlM ⟨l, At, Nu, Bl, Se, true, Gp, Dl, Fl⟩ f t = (⟨l, At, Nu, Bl, Se, true, Gp, t + 1000000, Fl⟩, 0) := by unfold ctlM; rw [if_neg h0, if_neg h1, if_neg hx, if_neg (by omega), if_pos h]
    rw [e]
    exact ctl27_wait A n c At Nu Bl Se Gp Dl Fl l F cF f t w hl hb hc hfb hfB hfc hk hv ht (by omega) h
  · have e : ctlM ⟨l, At, Nu, Bl, Se, true, Gp, Dl, Fl⟩ f t = (⟨l, At, Nu, Bl, Se, false, Gp, Dl, true⟩, 0) := by unfold ctlM; rw [if_neg h0, if_neg h1, if_neg hx, if_neg (by omega), if_neg (by omega)]
    rw [e]
    exact ctl27_stop A n c At Nu Bl Se Gp Dl Fl l F cF f t w hl hb hc hfb hfB hfc hk hv ht (by omega) h
theorem rctl32 (A : Option Addr) (n c : Nat) (At Nu Bl Se : Int) (Wt : Bool) (Gp Dl : Int) (Fl : Bool) (l : List Int) (F : Option Addr) (m cF : Nat) (f : List Int) (t : Int) (w : World) (hl : l.length = n) (hb : Bt w A l) (hc : n ≤ c) (hfl : f.length = m) (hfb : Bt w F f) (hfB : Byt f) (hfc : m ≤ cF) (hv : vS n At Nu Bl Se Wt Gp Dl Fl = true) (ht : timeB t = true) : Calls Try.prog 32 #[.agg #[.slice A n c, .int .i64 At, .int .i64 Nu, .int .i64 Bl, .int .i64 Se, .bool Wt, .int .i64 Gp, .int .i64 Dl, .bool Fl], .slice F m cF, .int .i64 t] w (S2 (ctlM ⟨l, At, Nu, Bl, Se, Wt, Gp, Dl, Fl⟩ f t).1 (ctlM ⟨l, At, Nu, Bl, Se, Wt, Gp, Dl, Fl⟩ f t).2 w) := by
  by_cases hk : kindM f = 3
  rotate_left 1
  · have e : ctlM ⟨l, At, Nu, Bl, Se, Wt, Gp, Dl, Fl⟩ f t = (szero, 3) := by unfold ctlM; rw [if_pos hk]
    rw [e]
    exact rctl32_form A n c At Nu Bl Se Wt Gp Dl Fl l F m cF f t w hfl hfb hfB hfc hk
  obtain rfl : m = 8 := by rw [← hfl]; exact kind_len (by omega)
  have h0 : ¬ kindM f ≠ 3 := by omega
  cases Wt
  · have e : ctlM ⟨l, At, Nu, Bl, Se, false, Gp, Dl, Fl⟩ f t = (szero, 6) := by unfold ctlM; rw [if_neg h0, if_pos rfl]
    rw [e]
    exact rctl32_state A n c At Nu Bl Se Gp Dl Fl l F cF f t w hfb hfB hfc hk
  have h1 : ¬ true = false := by decide
  by_cases hx : Dl < t
  · have e : ctlM ⟨l, At, Nu, Bl, Se, true, Gp, Dl, Fl⟩ f t = (szero, 16) := by unfold ctlM; rw [if_neg h0, if_neg h1, if_pos hx]
    rw [e]
    exact rctl32_time A n c At Nu Bl Se Gp Dl Fl l F cF f t w hfb hfB hfc hk hx
  obtain ⟨_, hlow, _⟩ := kind3 hk
  have hlow0 := (hfB.at 0).1
  rcases (by omega : f.getD 0 0 % 16 = 0 ∨ f.getD 0 0 % 16 = 1 ∨ f.getD 0 0 % 16 = 2) with h | h | h
  · have e : ctlM ⟨l, At, Nu, Bl, Se, true, Gp, Dl, Fl⟩ f t = (⟨l, At, Nu, f.getD 1 0, 0, false, f.getD 2 0, t, Fl⟩, 0) := by unfold ctlM; rw [if_neg h0, if_neg h1, if_neg hx, if_pos h]
    rw [e]
    exact rctl32_cont A n c At Nu Bl Se Gp Dl Fl l F cF f t w hl hb hc hfb hfB hfc hk hv ht (by omega) h
  · have e : ctlM ⟨l, At, Nu, Bl, Se, true, Gp, Dl, Fl⟩ f t = (⟨l, At, Nu, Bl, Se, true, Gp, t + 1000000, Fl⟩, 0) := by unfold ctlM; rw [if_neg h0, if_neg h1, if_neg hx, if_neg (by omega), if_pos h]
    rw [e]
    exact rctl32_wait A n c At Nu Bl Se Gp Dl Fl l F cF f t w hl hb hc hfb hfB hfc hk hv ht (by omega) h
  · have e : ctlM ⟨l, At, Nu, Bl, Se, true, Gp, Dl, Fl⟩ f t = (⟨l, At, Nu, Bl, Se, false, Gp, Dl, true⟩, 0) := by unfold ctlM; rw [if_neg h0, if_neg h1, if_neg hx, if_neg (by omega), if_neg (by omega)]
    rw [e]
    exact rctl32_stop A n c At Nu Bl Se Gp Dl Fl l F cF f t w hl hb hc hfb hfB hfc hk hv ht (by omega) h
theorem exp29 (A : Option Addr) (n c : Nat) (At Nu Bl Se : Int) (Wt : Bool) (Gp Dl : Int) (Fl : Bool) (l : List Int) (t : Int) (w : World) (hl : l.length = n) (hb : Bt w A l) (hc : n ≤ c) (hv : vS n At Nu Bl Se Wt Gp Dl Fl = true) (ht : timeB t = true) : Calls Try.prog 29 #[.agg #[.slice A n c, .int .i64 At, .int .i64 Nu, .int .i64 Bl, .int .i64 Se, .bool Wt, .int .i64 Gp, .int .i64 Dl, .bool Fl], .int .i64 t] w (S1 (expM ⟨l, At, Nu, Bl, Se, Wt, Gp, Dl, Fl⟩ t) w) := by
  cases Wt
  · have e : expM ⟨l, At, Nu, Bl, Se, false, Gp, Dl, Fl⟩ t = ⟨l, At, Nu, Bl, Se, false, Gp, Dl, Fl⟩ := by unfold expM; rw [if_neg (by simp)]
    rw [e]
    exact exp29_same A n c At Nu Bl Se Gp Dl Fl l t w hl hb hc hv ht
  by_cases hx : Dl < t
  · have e : expM ⟨l, At, Nu, Bl, Se, true, Gp, Dl, Fl⟩ t = ⟨l, At, Nu, Bl, Se, false, Gp, Dl, true⟩ := by unfold expM; rw [if_pos ⟨rfl, hx⟩]
    rw [e]
    exact exp29_late A n c At Nu Bl Se Gp Dl Fl l t w hl hb hc hv ht hx
  · have e : expM ⟨l, At, Nu, Bl, Se, true, Gp, Dl, Fl⟩ t = ⟨l, At, Nu, Bl, Se, true, Gp, Dl, Fl⟩ := by unfold expM; rw [if_neg (by simp; omega)]
    rw [e]
    exact exp29_wait A n c At Nu Bl Se Gp Dl Fl l t w hl hb hc hv ht (by omega)
theorem rexp33 (A : Option Addr) (n c : Nat) (At Nu Bl Se : Int) (Wt : Bool) (Gp Dl : Int) (Fl : Bool) (l : List Int) (t : Int) (w : World) (hl : l.length = n) (hb : Bt w A l) (hc : n ≤ c) (hv : vS n At Nu Bl Se Wt Gp Dl Fl = true) (ht : timeB t = true) : Calls Try.prog 33 #[.agg #[.slice A n c, .int .i64 At, .int .i64 Nu, .int .i64 Bl, .int .i64 Se, .bool Wt, .int .i64 Gp, .int .i64 Dl, .bool Fl], .int .i64 t] w (S1 (expM ⟨l, At, Nu, Bl, Se, Wt, Gp, Dl, Fl⟩ t) w) := by
  cases Wt
  · have e : expM ⟨l, At, Nu, Bl, Se, false, Gp, Dl, Fl⟩ t = ⟨l, At, Nu, Bl, Se, false, Gp, Dl, Fl⟩ := by unfold expM; rw [if_neg (by simp)]
    rw [e]
    exact rexp33_same A n c At Nu Bl Se Gp Dl Fl l t w hl hb hc
  by_cases hx : Dl < t
  · have e : expM ⟨l, At, Nu, Bl, Se, true, Gp, Dl, Fl⟩ t = ⟨l, At, Nu, Bl, Se, false, Gp, Dl, true⟩ := by unfold expM; rw [if_pos ⟨rfl, hx⟩]
    rw [e]
    exact rexp33_late A n c At Nu Bl Se Gp Dl Fl l t w hl hb hc hx
  · have e : expM ⟨l, At, Nu, Bl, Se, true, Gp, Dl, Fl⟩ t = ⟨l, At, Nu, Bl, Se, true, Gp, Dl, Fl⟩ := by unfold expM; rw [if_neg (by simp; omega)]
    rw [e]
    exact rexp33_wait A n c At Nu Bl Se Gp Dl Fl l t w hl hb hc (by omega)
end Go.Proofs.Ytfjeediecmhedaa
