/-
  Bytes in memory; the contracts of transport's small tests and of their references. No condition.
-/
import Derived.Test.YtfjeediecmhedaaKit
import Derived.Test.YtfjeediecmhedaaHeld
import Derived.Test.YtfjeediecmhedaaHeld2
import Derived.Laws.CopyOwn
import Derived.Laws.BytesArg
import Derived.IntWalk
set_option linter.unusedVariables false
set_option linter.unusedSimpArgs false
namespace Go.Proofs.Ytfjeediecmhedaa
open Go.RowKit
/-- a slice's bytes -/
def Bt (w : World) (A : Option Addr) (l : List Int) : Prop := 0 < l.length → ∃ b o, A = some ⟨b, o, none⟩ ∧ b < w.heap.size ∧ ∀ i x, l[i]? = some x → w.cell? ⟨b, o + i, none⟩ = some (.int .u8 x)
/-- the bytes lie in a block of the call's own -/
def Fr (B : Nat) (A : Option Addr) : Prop := ∀ b o, A = some ⟨b, o, none⟩ → B ≤ b
theorem Bt.below {w w' : World} {A : Option Addr} {l : List Int} (h : Bt w A l) (hb : Below w.heap.size w w') : Bt w' A l := fun h0 => by
  obtain ⟨b, o, rfl, hbl, hc⟩ := h h0
  exact ⟨b, o, rfl, Nat.lt_of_lt_of_le hbl hb.size, fun i x hx => ((bcell hb).1 _ _ hbl).trans (hc i x hx)⟩
theorem Bt.nil (w : World) (A : Option Addr) : Bt w A [] := fun h => absurd h (Nat.lt_irrefl 0)
theorem Bt.set {w : World} {A : Option Addr} {l : List Int} (h : Bt w A l) (P : Nat) (hne : ∀ b o, A = some ⟨b, o, none⟩ → P ≠ b) (j : Nat) (u : Value) : Bt (w.setCell ⟨P, j, none⟩ u) A l := fun h0 => by
  obtain ⟨b, o, rfl, hbl, hc⟩ := h h0
  exact ⟨b, o, rfl, by simpa using hbl, fun i x hx => (World.cell?_setCell_far _ _ _ _ (hne b o rfl)).trans (hc i x hx)⟩
/-- a part of a slice -/
theorem Bt.sub {w : World} {b o : Nat} {l : List Int} (h : Bt w (some ⟨b, o, none⟩) l) (lo k : Nat) : Bt w (some ⟨b, o + lo, none⟩) ((l.drop lo).take k) := fun h0 => by
  simp only [List.length_take, List.length_drop] at h0
  obtain ⟨b', o', e, hbl, hc⟩ := h (by omega)
  injection e with e; injection e with e1 e2
  subst e1; subst e2
  refine ⟨b, o + lo, rfl, hbl, fun i x hx => ?_⟩
  rw [List.getElem?_take] at hx
  split at hx
  · rw [List.getElem?_drop] at hx
    rw [Nat.add_assoc]
    exact hc _ x hx
  · cases hx
theorem Bt.at {w : World} {b o : Nat} {l : List Int} (h : Bt w (some ⟨b, o, none⟩) l) (i : Nat) (hi : i < l.length) : w.cell? ⟨b, o + i, none⟩ = some (.int .u8 (l.getD i 0)) ∧ b < w.heap.size := by
  obtain ⟨b', o', e, hbl, hc⟩ := h (by omega)
  injection e with e; injection e with e1 e2
  subst e1; subst e2
  refine ⟨hc i _ ?_, hbl⟩
  simp [List.getD, List.getElem?_eq_getElem hi]
theorem Bt.addr {w : World} {A : Option Addr} {l : List Int} (h : Bt w A l) (h0 : 0 < l.length) : ∃ b o, A = some ⟨b, o, none⟩ ∧ b < w.heap.size := by
  obtain ⟨b, o, e, hbl, _⟩ := h h0
  exact ⟨b, o, e, hbl⟩
def inB (x l h : Int) : Bool := decide (l ≤ x) && decide (x ≤ h)
theorem inB_t {x l h : Int} (h0 : inB x l h = true) : l ≤ x ∧ x ≤ h := by simpa [inB] using h0
theorem inB_mk {x l h : Int} (h0 : l ≤ x) (h1 : x ≤ h) : inB x l h = true := by simp [inB, h0, h1]
def msgB (n : Nat) : Bool := decide (1 ≤ n) && decide (n ≤ 1023)
def timeB (t : Int) : Bool := inB t 0 1099511627776
def cntB (b n : Int) : Bool := inB b 0 255 && inB n 0 255 && (decide (b = 0) || decide (n < b))
def parB (n len : Int) : Bool := decide (7 < len) && decide (len ≤ 1023) && decide (6 ≤ n) && decide (n < len) && decide ((n - 6) % 7 = 0)
theorem message41 (A : Option Addr) (n c : Nat) (w : World) : Calls Try.prog 41 #[.slice A n c] w fun r w' => r = .returned (.bool (msgB n)) ∧ w = w' := by
  go_enter Try.func41, Try.ntmps41
  go_wp2
  all_goals
    first
    | (exfalso; omega)
    | (go_ret; refine ⟨ret_bool ?_, rfl⟩; rw [Bool.eq_iff_iff]; simp [msgB] <;> omega)
theorem message11 (A : Option Addr) (n c : Nat) (w : World) : Calls Try.prog 11 #[.slice A n c] w fun r w' => r = .returned (.bool (msgB n)) ∧ w = w' := by
  go_enter Try.func11, Try.ntmps11
  go_wp2
  all_goals
    first
    | (exfalso; omega)
    | (go_ret; refine ⟨ret_bool ?_, rfl⟩; rw [Bool.eq_iff_iff]; simp [msgB] <;> omega)
theorem instant37 (t : Int) (w : World) : Calls Try.prog 37 #[.int .i64 t] w fun r w' => r = .returned (.bool (timeB t)) ∧ w = w' := by
  go_enter Try.func37, Try.ntmps37
  go_wp2
  all_goals
    first
    | (exfalso; omega)
    | (go_ret; refine ⟨ret_bool ?_, rfl⟩; rw [Bool.eq_iff_iff]; simp [timeB, inB] <;> omega)
theorem time21 (t : Int) (w : World) : Calls Try.prog 21 #[.int .i64 t] w fun r w' => r = .returned (.bool (timeB t)) ∧ w = w' := by
  go_enter Try.func21, Try.ntmps21
  go_wp2
  all_goals
    first
    | (exfalso; omega)
    | (go_ret; refine ⟨ret_bool ?_, rfl⟩; rw [Bool.eq_iff_iff]; simp [timeB, inB] <;> omega)
theorem deadline43 (t : Int) (w : World) : Calls Try.prog 43 #[.int .i64 t] w fun r w' => r = .returned (.bool (inB t 0 1099512627776)) ∧ w = w' := by
  go_enter Try.func43, Try.ntmps43
  go_wp2
  all_goals
    first
    | (exfalso; omega)
    | (go_ret; refine ⟨ret_bool ?_, rfl⟩; rw [Bool.eq_iff_iff]; simp [inB] <;> omega)
theorem counts48 (b n : Int) (w : World) : Calls Try.prog 48 #[.int .i64 b, .int .i64 n] w fun r w' => r = .returned (.bool (cntB b n)) ∧ w = w' := by
  go_enter Try.func48, Try.ntmps48
  go_wp2
  all_goals
    first
    | (exfalso; omega)
    | (go_ret; refine ⟨ret_bool ?_, rfl⟩; rw [Bool.eq_iff_iff]; simp [cntB, inB] <;> omega)
theorem block44 (b n : Int) (w : World) : Calls Try.prog 44 #[.int .i64 b, .int .i64 n] w fun r w' => r = .returned (.bool (cntB b n)) ∧ w = w' := by
  go_enter Try.func44, Try.ntmps44
  go_wp2
  all_goals
    first
    | (exfalso; omega)
    | (go_ret; refine ⟨ret_bool ?_, rfl⟩; rw [Bool.eq_iff_iff]; simp [cntB, inB] <;> omega)
theorem partly47 (n len : Int) (w : World) : Calls Try.prog 47 #[.int .i64 n, .int .i64 len] w fun r w' => r = .returned (.bool (parB n len)) ∧ w = w' := by
  go_enter Try.func47, Try.ntmps47
  go_wp2
  all_goals
    first
    | (exfalso; omega)
    | (go_ret; refine ⟨ret_bool ?_, rfl⟩; rw [Bool.eq_iff_iff]; simp [parB] <;> omega)
end Go.Proofs.Ytfjeediecmhedaa
