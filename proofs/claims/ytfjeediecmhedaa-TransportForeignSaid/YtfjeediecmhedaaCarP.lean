/-
  How many frames of a message are the sender's own, in plain terms. No condition but the bounds on the two numbers.
-/
import Derived.Test.YtfjeediecmhedaaCar1
set_option linter.unusedVariables false
set_option linter.unusedSimpArgs false
namespace Go.Proofs.Ytfjeediecmhedaa
open Go.RowKit
/-- a frame of the sender's own -/
def ownB (f : List Int) : Bool := decide (f.getD 0 0 < 48)
def cntO (fs : List (List Int)) : Nat := (fs.filter ownB).length
theorem cntO_nil : cntO [] = 0 := rfl
theorem cntO_cons (f : List Int) (fs : List (List Int)) : cntO (f :: fs) = (if ownB f = true then 1 else 0) + cntO fs := by
  unfold cntO
  rw [List.filter_cons]
  split <;> simp <;> omega
theorem cntO_take {fs : List (List Int)} {i : Nat} {f : List Int} (h : fs[i]? = some f) : cntO (fs.take (i + 1)) = cntO (fs.take i) + (if ownB f = true then 1 else 0) := by
  unfold cntO
  rw [List.take_add_one, h]
  simp only [Option.toList, List.filter_append, List.length_append, List.filter_cons, List.filter_nil]
  split <;> simp
theorem cntO_le (fs : List (List Int)) : cntO fs ≤ fs.length := List.length_filter_le _ _
theorem ownB_go (b g : Int) : ownB (pad [48, b, g]) = false := by simp [ownB, pad]
theorem ownB_head {x : Int} (h : x < 48) (l : List Int) : ownB (pad (x :: l)) = true := by simp [ownB, pad, h]
theorem carM_cnt (l : List Int) (b g : Int) : ∀ (k a : Nat) (Nu Se : Int) (Wt : Bool), 0 ≤ Nu → Nu ≤ 15 → (a < l.length → 2 * (l.length - a) + (if Wt = true then 1 else 0) ≤ k) → cntO (carM l b g k a Nu Se Wt) = (l.length - a + 6) / 7
  | 0, a, Nu, Se, Wt, n0, n1, h => by
    have : ¬ a < l.length := fun h0 => by have := h h0; omega
    show 0 = _
    omega
  | k + 1, a, Nu, Se, Wt, n0, n1, h => by
    unfold carM
    by_cases ha : l.length ≤ a
    · rw [if_pos ha]
      show 0 = _
      omega
    · rw [if_neg ha]
      have hk := h (by omega)
      cases Wt
      · rw [if_neg (by decide)]
        simp only [Bool.false_eq_true, if_false] at hk
        by_cases h7 : l.length ≤ a + 7
        · rw [if_pos h7, cntO_cons, cntO_nil, if_pos (ownB_head (by omega) _)]
          omega
        · rw [if_neg h7, cntO_cons, if_pos (ownB_head (by omega) _)]
          have e : ∀ (Se' : Int) (W : Bool), cntO (carM l b g k (a + 7) ((Nu + 1) % 16) Se' W) = (l.length - (a + 7) + 6) / 7 := fun Se' W => carM_cnt l b g k (a + 7) ((Nu + 1) % 16) Se' W (by omega) (by omega) (fun _ => by split <;> omega)
          have e2 : cntO (if b = 0 then carM l b g k (a + 7) ((Nu + 1) % 16) 0 false else if Se + 1 = b then carM l b g k (a + 7) ((Nu + 1) % 16) 0 true else carM l b g k (a + 7) ((Nu + 1) % 16) (Se + 1) false) = (l.length - (a + 7) + 6) / 7 := by
            split
            · exact e _ _
            · split <;> exact e _ _
          rw [e2]
          omega
      · rw [if_pos rfl, cntO_cons, ownB_go]
        simp only [if_true] at hk
        simp only [Bool.false_eq_true, if_false]
        rw [carM_cnt l b g k a Nu 0 false n0 n1 (fun _ => by simp; omega)]
        omega
theorem allM_cnt (l : List Int) (b g : Int) (h0 : 1 ≤ l.length) (h1 : l.length ≤ 1023) : cntO (allM l b g) = if l.length ≤ 7 then 1 else 1 + l.length / 7 := by
  unfold allM
  by_cases h : l.length ≤ 7
  · rw [if_pos h, if_pos h, cntO_cons, cntO_nil, if_pos (ownB_head (by omega) _)]
  · rw [if_neg h, if_neg h, cntO_cons, if_pos (ownB_head (by omega) _), carM_cnt l b g _ 6 1 0 true (by decide) (by decide) (fun _ => by simp; omega)]
    omega
theorem carM_len8 (l : List Int) (b g : Int) : ∀ (k a : Nat) (Nu Se : Int) (Wt : Bool), ∀ f ∈ carM l b g k a Nu Se Wt, f.length = 8
  | 0, a, Nu, Se, Wt => fun f hf => by simp [carM] at hf
  | k + 1, a, Nu, Se, Wt => fun f hf => by
    unfold carM at hf
    split at hf
    · simp at hf
    · split at hf
      · rcases List.mem_cons.1 hf with rfl | hf
        · exact pad_len (by simp)
        · exact carM_len8 l b g k a Nu 0 false f hf
      · split at hf
        · rcases List.mem_cons.1 hf with rfl | hf
          · exact pad_len (by simp; omega)
          · simp at hf
        · rcases List.mem_cons.1 hf with rfl | hf
          · exact pad_len (by simp; omega)
          · split at hf
            · exact carM_len8 l b g k _ _ _ _ f hf
            · split at hf
              · exact carM_len8 l b g k _ _ _ _ f hf
              · exact carM_len8 l b g k _ _ _ _ f hf
theorem allM_len8 (l : List Int) (b g : Int) : ∀ f ∈ allM l b g, f.length = 8 := by
  intro f hf
  unfold allM at hf
  split at hf
  · simp only [List.mem_singleton] at hf
    subst hf
    exact pad_len (by simp; omega)
  · rcases List.mem_cons.1 hf with rfl | hf
    · exact pad_len (by simp; omega)
    · exact carM_len8 l b g _ _ _ _ _ f hf
theorem carM_size (l : List Int) (b g : Int) : ∀ (k a : Nat) (Nu Se : Int) (Wt : Bool), (carM l b g k a Nu Se Wt).length ≤ k
  | 0, a, Nu, Se, Wt => by simp [carM]
  | k + 1, a, Nu, Se, Wt => by
    unfold carM
    split
    · simp
    · split
      · have := carM_size l b g k a Nu 0 false
        simp; omega
      · split
        · simp
        · have h := fun (a : Nat) (Nu Se : Int) (Wt : Bool) => carM_size l b g k a Nu Se Wt
          simp only [List.length_cons]
          split
          · have := h (a + 7) ((Nu + 1) % 16) 0 false; omega
          · split
            · have := h (a + 7) ((Nu + 1) % 16) 0 true; omega
            · have := h (a + 7) ((Nu + 1) % 16) (Se + 1) false; omega
theorem allM_size (l : List Int) (b g : Int) : (allM l b g).length ≤ 2 * l.length + 1 := by
  unfold allM
  split
  · simp
  · have := carM_size l b g (2 * l.length) 6 1 0 true
    simp; omega
end Go.Proofs.Ytfjeediecmhedaa
