/-
  What the receiver does when one frame of a message is lost, doubled or too late, in plain terms. No condition but that the numbers are bytes.
-/
import Derived.Test.YtfjeediecmhedaaPln
set_option linter.unusedVariables false
set_option linter.unusedSimpArgs false
namespace Go.Proofs.Ytfjeediecmhedaa
open Go.RowKit
theorem vR_mk_busy {n : Nat} {Le Nu Bl Gt Dl : Int} (h0 : 8 ≤ Le) (h1 : Le ≤ 1023) (h2 : 6 ≤ n) (h3 : (n : Int) < Le) (h4 : (n - 6 : Int) % 7 = 0) (h5 : 0 ≤ Nu) (h6 : Nu ≤ 15) (h7 : 0 ≤ Bl) (h8 : Bl ≤ 255) (h9 : 0 ≤ Gt) (h10 : Gt ≤ 255) (h11 : Bl = 0 ∨ Gt < Bl) (h12 : 0 ≤ Dl) (h13 : Dl ≤ 1099512627776) : vR n Le Nu Bl Gt true false Dl false = true := by
  unfold vR
  rw [inB_mk h7 h8, inB_mk h12 h13, inB_mk h5 h6]
  simp [parB, cntB, inB_mk h7 h8, inB_mk h9 h10]
  omega
theorem mid_ok {l : List Int} {B : Int} {k : Nat} {G D : Int} (h : 8 ≤ l.length) (h2 : l.length ≤ 1023) (hk : 1 ≤ k) (hlt : 7 * k - 1 < l.length) (b0 : 0 ≤ B) (b1 : B ≤ 255) (g0 : 0 ≤ G) (g1 : G ≤ 255) (hg : B = 0 ∨ G < B) (d0 : 0 ≤ D) (d1 : D ≤ 1099512627776) : (mid l B k G D).ok = true := by
  have hl : (l.take (7 * k - 1)).length = 7 * k - 1 := by simp; omega
  show vR (l.take (7 * k - 1)).length l.length ((k : Int) % 16) B G true false D false = true
  rw [hl]
  exact vR_mk_busy (by omega) (by omega) (by omega) (by omega) (by omega) (by omega) (by omega) b0 b1 g0 g1 hg d0 d1
theorem rz_ok {B : Int} (b0 : 0 ≤ B) (b1 : B ≤ 255) : RS.ok ⟨[], 0, 0, B, 0, false, false, 0, false⟩ = true := by
  show vR 0 0 0 B 0 false false 0 false = true
  unfold vR
  rw [inB_mk b0 b1]
  rfl
theorem fld_ok {B : Int} (b0 : 0 ≤ B) (b1 : B ≤ 255) : (fld B).ok = true := by
  show vR 0 0 0 B 0 false false 0 true = true
  unfold vR
  rw [inB_mk b0 b1]
  rfl
theorem dn_ok {l : List Int} {B : Int} (h : 1 ≤ l.length) (h2 : l.length ≤ 1023) (b0 : 0 ≤ B) (b1 : B ≤ 255) : (dn l B).ok = true := by
  show vR l.length l.length 0 B 0 false true 0 false = true
  unfold vR
  rw [inB_mk b0 b1]
  simp [msgB, h, h2]
  decide
/-- frame number k of a longer message, without the flow control -/
def lfr (l : List Int) (k : Nat) : List Int := if k = 0 then ffr l else cfr l k
/-- what is so ahead of frame k -/
def LR (l : List Int) (i kd k : Nat) (S : RS) (now : Int) : Prop :=
  (k = 0 ∧ S = rzero ∧ now = 0) ∨ (1 ≤ k ∧ k ≤ i ∧ S = mid l 0 k 0 1000000 ∧ now = 0) ∨ (k = i + 1 ∧ kd = 0 ∧ S = mid l 0 i 0 1000000 ∧ now = 0) ∨ (i < k ∧ S = fld 0 ∧ (now = 0 ∨ now = 1000001))
/-- how often frame k comes -/
def LC (i kd k : Nat) : Nat := if k = i then (if kd = 0 then 0 else if kd = 1 then 2 else 1) else 1
/-- when it comes -/
def LT (i kd k : Nat) (now : Int) : Int := if k = i ∧ kd = 2 then now + 1000001 else now
def after (l : List Int) (k : Nat) (now : Int) (S : RS) : Nat → RS
  | 0 => S
  | j + 1 => (rcvM (after l k now S j) (lfr l k) now).1
theorem loss_round {l : List Int} (h8 : 8 ≤ l.length) (h9 : l.length ≤ 1023) {i kd k : Nat} (i0 : 1 ≤ i) (i1 : i ≤ l.length / 7) (hkd : kd ≤ 2) (hk : k ≤ l.length / 7) {S : RS} {now : Int} (h : LR l i kd k S now) :
    (∀ j, j < LC i kd k → (after l k (LT i kd k now) S j).ok = true ∧ ((after l k (LT i kd k now) S j).Dn = true → k = l.length / 7) ∧ ((after l k (LT i kd k now) S j).Dn = false → (rcvM (after l k (LT i kd k now) S j) (lfr l k) (LT i kd k now)).2.2 = 0)) ∧
    0 ≤ LT i kd k now ∧ LT i kd k now ≤ 1000001 ∧ ((∀ j, j < LC i kd k → (after l k (LT i kd k now) S j).Dn = false) → LR l i kd (k + 1) (after l k (LT i kd k now) S (LC i kd k)) (LT i kd k now)) := by
  have okm : ∀ q, 1 ≤ q → q ≤ l.length / 7 → (mid l 0 q 0 1000000).ok = true := fun q h1 h2 => mid_ok h8 h9 h1 (by omega) (by omega) (by omega) (by omega) (by omega) (.inl rfl) (by omega) (by omega)
  have okf : (fld 0).ok = true := fld_ok (by omega) (by omega)
  rcases h with ⟨rfl, rfl, rfl⟩ | ⟨k0, k1, rfl, rfl⟩ | ⟨rfl, rfl, rfl, rfl⟩ | ⟨k0, rfl, hn⟩
  · have e1 : LC i kd 0 = 1 := by unfold LC; rw [if_neg (by omega)]
    have e2 : LT i kd 0 0 = 0 := by unfold LT; rw [if_neg (by omega)]
    rw [e1, e2]
    have e3 : rcvM rzero (lfr l 0) 0 = (mid l 0 1 0 1000000, pad [48, 0, 0], 0) := rcv_first h8 h9 rzero 0
    refine ⟨fun j hj => ?_, by omega, by omega, fun _ => ?_⟩
    · obtain rfl : j = 0 := by omega
      refine ⟨rz_ok (by omega) (by omega), fun h => (by cases h), fun _ => ?_⟩
      show (rcvM rzero (lfr l 0) 0).2.2 = 0
      rw [e3]
    · refine .inr (.inl ⟨by omega, by omega, ?_, rfl⟩)
      show (rcvM rzero (lfr l 0) 0).1 = _
      rw [e3]
  · have ef : lfr l k = cfr l k := by unfold lfr; rw [if_neg (by omega)]
    have hnx := rcv_next l k 0 0 1000000 0 (by omega) (by omega) (by omega)
    by_cases hki : k = i
    · subst hki
      rcases (by omega : kd = 0 ∨ kd = 1 ∨ kd = 2) with rfl | rfl | rfl
      · have e1 : LC k 0 k = 0 := by unfold LC; rw [if_pos rfl, if_pos rfl]
        have e2 : LT k 0 k 0 = 0 := by unfold LT; rw [if_neg (by omega)]
        rw [e1, e2]
        exact ⟨fun j hj => by omega, by omega, by omega, fun _ => .inr (.inr (.inl ⟨rfl, rfl, rfl, rfl⟩))⟩
      · have e1 : LC k 1 k = 2 := by unfold LC; rw [if_pos rfl, if_neg (by omega), if_pos rfl]
        have e2 : LT k 1 k 0 = 0 := by unfold LT; rw [if_neg (by omega)]
        rw [e1, e2]
        have a0 : after l k 0 (mid l 0 k 0 1000000) 0 = mid l 0 k 0 1000000 := rfl
        by_cases hlast : l.length ≤ 7 * (k + 1) - 1
        · rw [if_pos hlast] at hnx
          have a1 : after l k 0 (mid l 0 k 0 1000000) 1 = dn l 0 := by show (rcvM (mid l 0 k 0 1000000) (lfr l k) 0).1 = _; rw [ef, hnx]
          refine ⟨fun j hj => ?_, by omega, by omega, fun hall => ?_⟩
          · rcases (by omega : j = 0 ∨ j = 1) with rfl | rfl
            · rw [a0]
              exact ⟨okm k k0 hk, fun h => (by cases h), fun _ => by rw [ef, hnx]⟩
            · rw [a1]
              exact ⟨dn_ok (by omega) h9 (by omega) (by omega), fun _ => by omega, fun h => (by cases h)⟩
          · have := hall 1 (by omega)
            rw [a1] at this
            cases this
        · rw [if_neg hlast, if_pos rfl] at hnx
          have a1 : after l k 0 (mid l 0 k 0 1000000) 1 = mid l 0 (k + 1) 0 (0 + 1000000) := by show (rcvM (mid l 0 k 0 1000000) (lfr l k) 0).1 = _; rw [ef, hnx]
          have hb := rcv_bad l k (k + 1) 0 0 (0 + 1000000) 0 (.inr (by omega))
          refine ⟨fun j hj => ?_, by omega, by omega, fun hall => ?_⟩
          · rcases (by omega : j = 0 ∨ j = 1) with rfl | rfl
            · rw [a0]
              exact ⟨okm k k0 hk, fun h => (by cases h), fun _ => by rw [ef, hnx]⟩
            · rw [a1]
              refine ⟨okm (k + 1) (by omega) (by omega), fun h => (by cases h), fun _ => by rw [ef, hb]⟩
          · refine .inr (.inr (.inr ⟨by omega, ?_, .inl rfl⟩))
            show (rcvM (after l k 0 (mid l 0 k 0 1000000) 1) (lfr l k) 0).1 = _
            rw [a1, ef, hb]
      · have e1 : LC k 2 k = 1 := by unfold LC; rw [if_pos rfl, if_neg (by omega), if_neg (by omega)]
        have e2 : LT k 2 k 0 = 1000001 := by unfold LT; rw [if_pos ⟨rfl, rfl⟩]; omega
        rw [e1, e2]
        have hb := rcv_bad l k k 0 0 1000000 1000001 (.inl (by omega))
        refine ⟨fun j hj => ?_, by omega, by omega, fun _ => ?_⟩
        · obtain rfl : j = 0 := by omega
          refine ⟨okm k k0 hk, fun h => (by cases h), fun _ => ?_⟩
          show (rcvM (mid l 0 k 0 1000000) (lfr l k) 1000001).2.2 = 0
          rw [ef, hb]
        · refine .inr (.inr (.inr ⟨by omega, ?_, .inr rfl⟩))
          show (rcvM (mid l 0 k 0 1000000) (lfr l k) 1000001).1 = _
          rw [ef, hb]
    · have e1 : LC i kd k = 1 := by unfold LC; rw [if_neg hki]
      have e2 : LT i kd k 0 = 0 := by unfold LT; rw [if_neg (by omega)]
      rw [e1, e2]
      rw [if_neg (by omega), if_pos rfl] at hnx
      refine ⟨fun j hj => ?_, by omega, by omega, fun _ => ?_⟩
      · obtain rfl : j = 0 := by omega
        refine ⟨okm k k0 hk, fun h => (by cases h), fun _ => ?_⟩
        show (rcvM (mid l 0 k 0 1000000) (lfr l k) 0).2.2 = 0
        rw [ef, hnx]
      · refine .inr (.inl ⟨by omega, by omega, ?_, rfl⟩)
        show (rcvM (mid l 0 k 0 1000000) (lfr l k) 0).1 = _
        rw [ef, hnx]
        rfl
  · have ef : lfr l (i + 1) = cfr l (i + 1) := by unfold lfr; rw [if_neg (by omega)]
    have e1 : LC i 0 (i + 1) = 1 := by unfold LC; rw [if_neg (by omega)]
    have e2 : LT i 0 (i + 1) 0 = 0 := by unfold LT; rw [if_neg (by omega)]
    rw [e1, e2]
    have hb := rcv_bad l (i + 1) i 0 0 1000000 0 (.inr (by omega))
    refine ⟨fun j hj => ?_, by omega, by omega, fun _ => ?_⟩
    · obtain rfl : j = 0 := by omega
      refine ⟨okm i i0 i1, fun h => (by cases h), fun _ => ?_⟩
      show (rcvM (mid l 0 i 0 1000000) (lfr l (i + 1)) 0).2.2 = 0
      rw [ef, hb]
    · refine .inr (.inr (.inr ⟨by omega, ?_, .inl rfl⟩))
      show (rcvM (mid l 0 i 0 1000000) (lfr l (i + 1)) 0).1 = _
      rw [ef, hb]
  · have ef : lfr l k = cfr l k := by unfold lfr; rw [if_neg (by omega)]
    have e1 : LC i kd k = 1 := by unfold LC; rw [if_neg (by omega)]
    have e2 : LT i kd k now = now := by unfold LT; rw [if_neg (by omega)]
    rw [e1, e2]
    have hb := rcv_fld l k 0 now
    refine ⟨fun j hj => ?_, by omega, by omega, fun _ => ?_⟩
    · obtain rfl : j = 0 := by omega
      refine ⟨okf, fun h => (by cases h), fun _ => ?_⟩
      show (rcvM (fld 0) (lfr l k) now).2.2 = 0
      rw [ef, hb]
    · refine .inr (.inr (.inr ⟨by omega, ?_, hn⟩))
      show (rcvM (fld 0) (lfr l k) now).1 = _
      rw [ef, hb]
theorem recv13_ok (A : Option Addr) (n c : Nat) (s : RS) (F : Option Addr) (m cF : Nat) (f : List Int) (t : Int) (w : World) (hl : s.l.length = n) (hb : Bt w A s.l) (hc : n ≤ c) (hfl : f.length = m) (hfb : Bt w F f) (hfB : Byt f) (hfc : m ≤ cF) (hok : s.ok = true) (ht : timeB t = true) :
    Calls Try.prog 13 #[.agg #[.slice A n c, .int .i64 s.Le, .int .i64 s.Nu, .int .i64 s.Bl, .int .i64 s.Gt, .bool s.Bu, .bool s.Dn, .int .i64 s.Dl, .bool s.Fl], .slice F m cF, .int .i64 t] w (RP (rcvM s f t).1 (rcvM s f t).2.1 (rcvM s f t).2.2 w) := by
  refine (recv13 A n c s F m cF f t w hl hb hc hfl hfb hfB hfc).mono ?_
  rintro r w' (⟨h, _⟩ | ⟨_, h, _⟩ | ⟨_, _, h⟩)
  · rw [hok] at h; cases h
  · rw [ht] at h; cases h
  · exact h
end Go.Proofs.Ytfjeediecmhedaa
