/-
  What the receiver answers to the frames of a message, in plain terms. No condition but that the numbers are bytes.
-/
import Derived.Test.YtfjeediecmhedaaCar1
import Derived.Test.YtfjeediecmhedaaRecv
set_option linter.unusedVariables false
set_option linter.unusedSimpArgs false
namespace Go.Proofs.Ytfjeediecmhedaa
open Go.RowKit
/-- the first frame of a longer message -/
def ffr (l : List Int) : List Int := pad ((16 + (l.length : Int) / 256) :: ((l.length : Int) % 256) :: l.take 6)
/-- the consecutive frame with this number, counted from 1 -/
def cfr (l : List Int) (k : Nat) : List Int := pad ((32 + (k : Int) % 16) :: (l.drop (7 * k - 1)).take 7)
/-- a receiver that has the first frame and k - 1 consecutive ones -/
def mid (l : List Int) (B : Int) (k : Nat) (G D : Int) : RS := ⟨l.take (7 * k - 1), l.length, (k : Int) % 16, B, G, true, false, D, false⟩
def dn (l : List Int) (B : Int) : RS := ⟨l, l.length, 0, B, 0, false, true, 0, false⟩
def fld (B : Int) : RS := ⟨[], 0, 0, B, 0, false, false, 0, true⟩
theorem ffr_eq {l : List Int} (h : 8 ≤ l.length) : ffr l = (16 + (l.length : Int) / 256) :: ((l.length : Int) % 256) :: l.take 6 := by
  unfold ffr pad
  have : ((16 + (l.length : Int) / 256) :: ((l.length : Int) % 256) :: l.take 6).length = 8 := by simp; omega
  rw [this]; simp
theorem kind_ffr {l : List Int} (h : 8 ≤ l.length) (h2 : l.length ≤ 1023) : kindM (ffr l) = 1 := by
  have h8 : (ffr l).length = 8 := by rw [ffr_eq h]; simp; omega
  unfold kindM
  rw [if_pos h8, ffr_eq h]
  simp only [List.getD_cons_zero, List.getD_cons_succ]
  rw [if_neg (by omega), if_pos (by omega), if_pos (by omega)]
theorem cfr_len (l : List Int) (k : Nat) : (cfr l k).length = 8 := pad_len (by simp; omega)
theorem cfr_head (l : List Int) (k : Nat) : (cfr l k).getD 0 0 = 32 + (k : Int) % 16 := by simp [cfr, pad]
theorem kind_cfr (l : List Int) (k : Nat) : kindM (cfr l k) = 2 := by
  unfold kindM
  rw [if_pos (cfr_len l k), cfr_head]
  rw [if_neg (by omega), if_neg (by omega), if_pos (by omega)]
theorem byt_pad {l : List Int} (h : Byt l) : Byt (pad l) := by
  intro x hx
  unfold pad at hx
  rcases List.mem_append.1 hx with hx | hx
  · exact h x hx
  · rw [List.mem_replicate] at hx; omega
theorem byt_cfr {l : List Int} (h : Byt l) (k : Nat) : Byt (cfr l k) := byt_pad (fun x hx => by
  rcases List.mem_cons.1 hx with rfl | hx
  · omega
  · exact h x (List.mem_of_mem_drop (List.mem_of_mem_take hx)))
theorem byt_ffr {l : List Int} (h : Byt l) (h2 : l.length ≤ 1023) : Byt (ffr l) := byt_pad (fun x hx => by
  rcases List.mem_cons.1 hx with rfl | hx
  · omega
  rcases List.mem_cons.1 hx with rfl | hx
  · omega
  · exact h x (List.mem_of_mem_take hx))
theorem rcv_first {l : List Int} (h : 8 ≤ l.length) (h2 : l.length ≤ 1023) (s : RS) (t : Int) : rcvM s (ffr l) t = (mid l s.Bl 1 0 (t + 1000000), pad [48, s.Bl, 0], 0) := by
  unfold rcvM
  rw [if_neg (by rw [kind_ffr h h2]; decide), if_pos (kind_ffr h h2), ffr_eq h]
  simp only [List.getD_cons_zero, List.getD_cons_succ, List.drop_succ_cons, List.drop_zero, mid]
  congr 2
  · omega
theorem rcv_fld (l : List Int) (k : Nat) (B t : Int) : rcvM (fld B) (cfr l k) t = (fld B, [], 0) := by
  unfold rcvM
  rw [if_neg (by rw [kind_cfr]; decide), if_neg (by rw [kind_cfr]; decide), if_pos (kind_cfr l k), if_pos (show (fld B).Bu = false from rfl)]
theorem rcv_idle (l : List Int) (k : Nat) (s : RS) (t : Int) (h : s.Bu = false) : rcvM s (cfr l k) t = (s, [], 0) := by
  unfold rcvM
  rw [if_neg (by rw [kind_cfr]; decide), if_neg (by rw [kind_cfr]; decide), if_pos (kind_cfr l k), if_pos h]
theorem rcv_flow (s : RS) (t : Int) {b g : Int} (b0 : 0 ≤ b) (b1 : b ≤ 255) (g0 : 0 ≤ g) (g1 : g ≤ 127) : rcvM s (pad [48, b, g]) t = (s, [], 0) := by
  have hk := kind_go b0 b1 g0 g1
  unfold rcvM
  rw [if_neg (by rw [hk]; decide), if_neg (by rw [hk]; decide), if_neg (by rw [hk]; decide), if_pos hk]
theorem rcv_bad (l : List Int) (j k : Nat) (B G D t : Int) (h : D < t ∨ j % 16 ≠ k % 16) : rcvM (mid l B k G D) (cfr l j) t = (fld B, [], 0) := by
  unfold rcvM
  rw [if_neg (by rw [kind_cfr]; decide), if_neg (by rw [kind_cfr]; decide), if_pos (kind_cfr l j), if_neg (by simp [mid]), if_pos]
  · rfl
  · rcases h with h | h
    · exact .inl h
    · refine .inr ?_
      rw [cfr_head]
      simp only [mid]
      omega
theorem take_cfr (l : List Int) (k : Nat) (m : Nat) (hm : m ≤ 7) (h : m ≤ l.length - (7 * k - 1)) : ((cfr l k).drop 1).take m = (l.drop (7 * k - 1)).take m := by
  simp only [cfr, pad, List.cons_append, List.drop_succ_cons, List.drop_zero]
  rw [List.take_append_of_le_length (by simp; omega), List.take_take, Nat.min_eq_left hm]
theorem rcv_next (l : List Int) (k : Nat) (B G D t : Int) (hk : 1 ≤ k) (hlt : 7 * k - 1 < l.length) (ht : t ≤ D) :
    rcvM (mid l B k G D) (cfr l k) t = if l.length ≤ 7 * (k + 1) - 1 then (dn l B, [], 0) else if B = 0 then (mid l B (k + 1) G (t + 1000000), [], 0) else if G + 1 = B then (mid l B (k + 1) 0 (t + 1000000), pad [48, B, 0], 0) else (mid l B (k + 1) (G + 1) (t + 1000000), [], 0) := by
  have hl : (l.take (7 * k - 1)).length = 7 * k - 1 := by simp; omega
  have hm : min 7 (l.length - (l.take (7 * k - 1)).length) = min 7 (l.length - (7 * k - 1)) := by rw [hl]
  have e0 : l.take (7 * k - 1) ++ ((cfr l k).drop 1).take (min 7 (l.length - (7 * k - 1))) = l.take (7 * (k + 1) - 1) := by
    rw [take_cfr l k _ (by omega) (by omega), ← List.take_add]
    by_cases h : l.length ≤ 7 * (k + 1) - 1
    · rw [List.take_of_length_le (by omega), List.take_of_length_le (by omega)]
    · congr 1; omega
  have hN : (((k + 1 : Nat) : Int)) % 16 = ((k : Int) % 16 + 1) % 16 := by omega
  unfold rcvM
  rw [if_neg (by rw [kind_cfr]; decide), if_neg (by rw [kind_cfr]; decide), if_pos (kind_cfr l k), if_neg (by simp [mid]), if_neg (by rw [cfr_head]; simp only [mid]; omega)]
  simp only [mid, Int.toNat_natCast, hm, e0]
  by_cases h : l.length ≤ 7 * (k + 1) - 1
  · rw [if_pos h, if_pos (by simp; omega), List.take_of_length_le h]
    rfl
  · rw [if_neg h, if_neg (by simp; omega), hN]
/-- the consecutive frames of a message for which the receiver sets no block -/
theorem carM_free (l : List Int) : ∀ (fuel k : Nat), 1 ≤ k → l.length / 7 + 1 ≤ k + fuel → carM l 0 0 fuel (7 * k - 1) ((k : Int) % 16) 0 false = (List.range' k (l.length / 7 + 1 - k)).map (cfr l)
  | 0, k, hk, hf => by
    have : l.length / 7 + 1 - k = 0 := by omega
    rw [this]; rfl
  | fuel + 1, k, hk, hf => by
    unfold carM
    by_cases h : l.length ≤ 7 * k - 1
    · rw [if_pos h]
      have : l.length / 7 + 1 - k = 0 := by omega
      rw [this]; rfl
    · rw [if_neg h, if_neg (by decide)]
      by_cases h7 : l.length ≤ 7 * k - 1 + 7
      · rw [if_pos h7]
        have : l.length / 7 + 1 - k = 1 := by omega
        rw [this]
        simp only [List.range', List.map, cfr]
        rw [List.take_of_length_le (by simp; omega)]
      · rw [if_neg h7, if_pos rfl]
        have e1 : 7 * k - 1 + 7 = 7 * (k + 1) - 1 := by omega
        have e2 : ((k : Int) % 16 + 1) % 16 = ((k + 1 : Nat) : Int) % 16 := by omega
        have e3 : l.length / 7 + 1 - k = (l.length / 7 + 1 - (k + 1)) + 1 := by omega
        rw [e1, e2, carM_free l fuel (k + 1) (by omega) (by omega), e3, List.range'_succ]
        rfl
theorem all_free {l : List Int} (h : 8 ≤ l.length) : allM l 0 0 = ffr l :: pad [48, 0, 0] :: (List.range' 1 (l.length / 7)).map (cfr l) := by
  unfold allM
  rw [if_neg (by omega)]
  obtain ⟨m, hm⟩ : ∃ m, 2 * l.length = m + 1 := ⟨2 * l.length - 1, by omega⟩
  rw [hm]
  show ffr l :: _ = _
  conv => lhs; unfold carM
  rw [if_neg (by omega), if_pos rfl]
  have := carM_free l m 1 (by omega) (by omega)
  rw [show 7 * 1 - 1 = 6 from rfl, show ((1 : Nat) : Int) % 16 = 1 from rfl, show l.length / 7 + 1 - 1 = l.length / 7 by omega] at this
  rw [this]
theorem all_short {l : List Int} (h : l.length ≤ 7) (b g : Int) : allM l b g = [pad ((l.length : Int) :: l)] := by
  unfold allM; rw [if_pos h]
theorem kind_one {l : List Int} (h : 1 ≤ l.length) (h7 : l.length ≤ 7) : kindM (pad ((l.length : Int) :: l)) = 0 := by
  have h8 : (pad ((l.length : Int) :: l)).length = 8 := pad_len (by simp; omega)
  have h0 : (pad ((l.length : Int) :: l)).getD 0 0 = l.length := by simp [pad]
  unfold kindM
  rw [if_pos h8, h0, if_pos (by omega), if_pos]
  refine ⟨by omega, by omega, ?_⟩
  have e : ((l.length : Int) % 16).toNat + 1 = l.length + 1 := by omega
  rw [e]
  unfold zerB pad
  have : List.drop (l.length + 1) ((l.length : Int) :: l ++ List.replicate (8 - ((l.length : Int) :: l).length) 0) = List.replicate (8 - (l.length + 1)) 0 := by
    rw [List.drop_append_of_le_length (by simp)]
    simp
  rw [this]
  simp
theorem rcv_one {l : List Int} (h : 1 ≤ l.length) (h7 : l.length ≤ 7) (s : RS) (t : Int) : rcvM s (pad ((l.length : Int) :: l)) t = (dn l s.Bl, [], 0) := by
  have h0 : (pad ((l.length : Int) :: l)).getD 0 0 = l.length := by simp [pad]
  unfold rcvM
  rw [if_pos (kind_one h h7), h0]
  have e : ((l.length : Int) % 16).toNat = l.length := by omega
  rw [e]
  have e2 : (l.length : Int) % 16 = l.length := by omega
  rw [e2]
  have : (List.drop 1 (pad ((l.length : Int) :: l))).take l.length = l := by
    simp [pad]
  rw [this]
  rfl
end Go.Proofs.Ytfjeediecmhedaa
