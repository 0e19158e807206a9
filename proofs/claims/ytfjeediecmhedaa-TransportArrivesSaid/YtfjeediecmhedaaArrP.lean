/-
  What sender and receiver do in turn, in plain terms. No condition but the bounds on the numbers.
-/
import Derived.Test.YtfjeediecmhedaaLosP
set_option linter.unusedVariables false
set_option linter.unusedSimpArgs false
namespace Go.Proofs.Ytfjeediecmhedaa
open Go.RowKit
/-- frame number j of the sender -/
def gfr (l : List Int) (j : Nat) : List Int := if j = 0 then (if l.length ≤ 7 then pad ((l.length : Int) :: l) else ffr l) else cfr l j
def rz (B : Int) : RS := ⟨[], 0, 0, B, 0, false, false, 0, false⟩
/-- a sender that has sent all -/
def sdone (l : List Int) : SS := ⟨l, l.length, 0, 0, 0, false, 0, 0, false⟩
/-- a sender that has sent up to frame number k - 1 -/
def smid (l : List Int) (B : Int) (k : Nat) (Se : Int) (Wt : Bool) (Dl : Int) : SS := ⟨l, ((7 * k - 1 : Nat) : Int), (k : Int) % 16, B, Se, Wt, 0, Dl, false⟩
/-- the sender, the receiver, the time and the frames in a row, while frame j is under way -/
def AR (l : List Int) (B : Int) (j : Nat) (s : SS) (r : RS) (now row : Int) : Prop :=
  0 ≤ now ∧ now ≤ 65535 * (j : Int) ∧ 0 ≤ row ∧ row ≤ (j : Int) ∧
  ((j = 0 ∧ l.length ≤ 7 ∧ s = sdone l ∧ r = rz B ∧ now = 0) ∨
   (j = 0 ∧ 8 ≤ l.length ∧ s = ⟨l, 6, 1, 0, 0, true, 0, 1000000, false⟩ ∧ r = rz B ∧ now = 0) ∨
   (8 ≤ l.length ∧ 1 ≤ j ∧ 7 * j - 1 < l.length ∧ ∃ G D : Int, r = mid l B j G D ∧ now ≤ D ∧ D ≤ 1000000000 ∧ 0 ≤ G ∧ (B = 0 ∨ G < B) ∧ (B = 0 → G = 0) ∧ (0 < B → row = G + 1) ∧
     ((l.length ≤ 7 * (j + 1) - 1 ∧ s = sdone l) ∨
      (7 * (j + 1) - 1 < l.length ∧ ∃ (Se : Int) (Wt : Bool) (Dl : Int), s = smid l B (j + 1) Se Wt Dl ∧
        ((Wt = true ∧ 0 < B ∧ G + 1 = B ∧ Se = 0 ∧ Dl = now + 1000000) ∨ (Wt = false ∧ Dl = now ∧ ((B = 0 ∧ Se = 0) ∨ (0 < B ∧ G + 1 < B ∧ Se = G + 1))))))))
theorem sdone_ok {l : List Int} (h1 : 1 ≤ l.length) (h2 : l.length ≤ 1023) : (sdone l).ok = true :=
  show vS l.length (l.length : Int) 0 0 0 false 0 0 false = true from vS_mk h1 h2 (by omega) (by omega) (by omega) (by omega) (by omega) (by omega) (by omega) (by omega) (by omega) (by omega) (by omega) (.inl ⟨rfl, rfl⟩)
theorem smid_ok {l : List Int} (h8 : 8 ≤ l.length) (h2 : l.length ≤ 1023) {B : Int} {k : Nat} {Se : Int} {Wt : Bool} {Dl : Int} (b0 : 0 ≤ B) (b1 : B ≤ 255) (hk : 1 ≤ k) (hlt : 7 * k - 1 < l.length) (s0 : 0 ≤ Se) (hs : B = 0 ∨ Se < B) (s1 : Se ≤ 255) (d0 : 0 ≤ Dl) (d1 : Dl ≤ 1099512627776) : (smid l B k Se Wt Dl).ok = true :=
  show vS l.length ((7 * k - 1 : Nat) : Int) ((k : Int) % 16) B Se Wt 0 Dl false = true from vS_mk (by omega) h2 b0 b1 s0 s1 hs (by omega) (by omega) (by omega) (by omega) d0 d1 (.inr (by omega))
theorem init_ok {l : List Int} (h8 : 8 ≤ l.length) (h2 : l.length ≤ 1023) : SS.ok ⟨l, 6, 1, 0, 0, true, 0, 1000000, false⟩ = true :=
  show vS l.length 6 1 0 0 true 0 1000000 false = true from vS_mk (by omega) h2 (by omega) (by omega) (by omega) (by omega) (by omega) (by omega) (by omega) (by omega) (by omega) (by omega) (by omega) (.inr (by omega))
/-- frame k is sent -/
theorem nxt_AR {l : List Int} (h8 : 8 ≤ l.length) (h2 : l.length ≤ 1023) {B : Int} (b0 : 0 ≤ B) (b1 : B ≤ 255) {k : Nat} (hk : 1 ≤ k) (hlt : 7 * k - 1 < l.length) {Se G D t row : Int} (hS : (B = 0 ∧ Se = 0 ∧ G = 0) ∨ (0 < B ∧ Se = G ∧ 0 ≤ G ∧ G < B)) (t0 : 0 ≤ t) (t1 : t ≤ 65535 * (k : Int)) (tD : t ≤ D) (D1 : D ≤ 1000000000) (r0 : 0 ≤ row) (r1 : row ≤ (k : Int)) (hr : 0 < B → row = G + 1) :
    ∃ s2, nxtM (smid l B k Se false t) t = (s2, gfr l k, 0) ∧ AR l B k s2 (mid l B k G D) t row := by
  have hg : gfr l k = cfr l k := by unfold gfr; rw [if_neg (by omega)]
  have hneg : ¬ (((7 * k - 1 : Nat) : Int) = (l.length : Int) ∨ false = true ∨ false = true) := by simp; omega
  have hN : ((k : Int) % 16 + 1) % 16 = ((k + 1 : Nat) : Int) % 16 := by omega
  have hA : (((7 * k - 1 : Nat) : Int)) + 7 = ((7 * (k + 1) - 1 : Nat) : Int) := by omega
  by_cases h7 : l.length ≤ 7 * (k + 1) - 1
  · refine ⟨sdone l, ?_, t0, t1, r0, r1, .inr (.inr ⟨h8, hk, hlt, G, D, rfl, tD, D1, by omega, by omega, by omega, hr, .inl ⟨h7, rfl⟩⟩)⟩
    rw [hg]
    unfold nxtM smid
    rw [if_neg hneg, if_neg (by simp)]
    simp only [Int.toNat_natCast]
    rw [if_pos (by omega)]
    unfold cfr
    rw [List.take_of_length_le (by simp; omega)]
    rfl
  · have hM : nxtM (smid l B k Se false t) t = (if B = 0 then (smid l B (k + 1) 0 false t, cfr l k, 0) else if Se + 1 = B then (smid l B (k + 1) 0 true (t + 1000000), cfr l k, 0) else (smid l B (k + 1) (Se + 1) false t, cfr l k, 0)) := by
      unfold nxtM smid
      rw [if_neg hneg, if_neg (by simp)]
      simp only [Int.toNat_natCast]
      rw [if_neg (by omega), hN, hA]
      simp only [Int.mul_zero, Int.add_zero]
      rfl
    by_cases hB : B = 0
    · rw [if_pos hB] at hM
      refine ⟨_, by rw [hM, hg], t0, t1, r0, r1, .inr (.inr ⟨h8, hk, hlt, G, D, rfl, tD, D1, by omega, by omega, by omega, hr, .inr ⟨by omega, 0, false, t, rfl, .inr ⟨rfl, rfl, .inl ⟨hB, rfl⟩⟩⟩⟩)⟩
    · rw [if_neg hB] at hM
      by_cases hS1 : Se + 1 = B
      · rw [if_pos hS1] at hM
        exact ⟨_, by rw [hM, hg], t0, t1, r0, r1, .inr (.inr ⟨h8, hk, hlt, G, D, rfl, tD, D1, by omega, by omega, by omega, hr, .inr ⟨by omega, 0, true, t + 1000000, rfl, .inl ⟨rfl, by omega, by omega, rfl, rfl⟩⟩⟩)⟩
      · rw [if_neg hS1] at hM
        exact ⟨_, by rw [hM, hg], t0, t1, r0, r1, .inr (.inr ⟨h8, hk, hlt, G, D, rfl, tD, D1, by omega, by omega, by omega, hr, .inr ⟨by omega, Se + 1, false, t, rfl, .inr ⟨rfl, rfl, .inr ⟨by omega, by omega, by omega⟩⟩⟩⟩)⟩
theorem ctl_go {s : SS} {B t : Int} (b0 : 0 ≤ B) (b1 : B ≤ 255) (hw : s.Wt = true) (ht : t ≤ s.Dl) : ctlM s (pad [48, B, 0]) t = (⟨s.l, s.At, s.Nu, B, 0, false, 0, t, s.Fl⟩, 0) := by
  have e1 : (pad [48, B, 0]).getD 0 0 % 16 = 0 := by simp [pad]
  have e2 : (pad [48, B, 0]).getD 1 0 = B := by simp [pad]
  have e3 : (pad [48, B, 0]).getD 2 0 = 0 := by simp [pad]
  unfold ctlM
  rw [if_neg (by rw [kind_go b0 b1 (Int.le_refl 0) (by omega)]; simp), if_neg (by rw [hw]; simp), if_neg (by omega), if_pos e1, e2, e3]
/-- what a round does -/
def Rnd (l : List Int) (B : Int) (j : Nat) (s : SS) (r : RS) (now row : Int) : Prop :=
  (rcvM r (gfr l j) now = (dn l B, [], 0) ∧ s.At = l.length) ∨
  (∃ (r' : RS) (ans : List Int), rcvM r (gfr l j) now = (r', ans, 0) ∧ r'.Bu = true ∧ r'.Dn = false ∧ s.ok = true ∧ s.l = l ∧ j + 1 ≤ l.length / 7 ∧ ((s.Wt = true ∧ ans = pad [48, B, 0]) ∨ (s.Wt = false ∧ ans = [])) ∧
    (s.Wt = true → ∀ dl : Int, 0 ≤ dl → dl ≤ 65535 → ∃ s1 s2, ctlM s (pad [48, B, 0]) (now + dl) = (s1, 0) ∧ s1.ok = true ∧ s1.l = l ∧ s1.Wt = false ∧ s1.Dl = now + dl ∧ nxtM s1 (now + dl) = (s2, gfr l (j + 1), 0) ∧ AR l B (j + 1) s2 r' (now + dl) 1) ∧
    (s.Wt = false → s.Dl = now ∧ ∃ s2, nxtM s now = (s2, gfr l (j + 1), 0) ∧ AR l B (j + 1) s2 r' now (row + 1)))
theorem arr_step {l : List Int} (h1 : 1 ≤ l.length) (h2 : l.length ≤ 1023) {B : Int} (b0 : 0 ≤ B) (b1 : B ≤ 255) {j : Nat} {s : SS} {r : RS} {now row : Int} (h : AR l B j s r now row) :
    r.ok = true ∧ r.Dn = false ∧ j ≤ l.length / 7 ∧ 0 ≤ now ∧ now ≤ 10000000 ∧ 0 ≤ row ∧ row ≤ 200 ∧ Rnd l B j s r now row := by
  obtain ⟨t0, t1, r0, r1, h⟩ := h
  rcases h with ⟨rfl, h7, rfl, rfl, rfl⟩ | ⟨rfl, h8, rfl, rfl, rfl⟩ | ⟨h8, hj, hlt, G, D, rfl, tD, D1, G0, hGB, hB0, hrow, hs⟩
  · refine ⟨rz_ok b0 b1, rfl, by omega, by omega, by omega, by omega, by omega, .inl ⟨?_, rfl⟩⟩
    unfold gfr
    rw [if_pos rfl, if_pos h7]
    exact rcv_one h1 h7 _ _
  · have hg : gfr l 0 = ffr l := by unfold gfr; rw [if_pos rfl, if_neg (by omega)]
    refine ⟨rz_ok b0 b1, rfl, by omega, by omega, by omega, by omega, by omega, .inr ⟨mid l B 1 0 (0 + 1000000), pad [48, B, 0], by rw [hg]; exact rcv_first h8 h2 _ _, rfl, rfl, init_ok h8 h2, rfl, by omega, .inl ⟨rfl, rfl⟩, fun _ dl d0 d1 => ?_, fun h => (by cases h)⟩⟩
    have e := ctl_go (s := ⟨l, 6, 1, 0, 0, true, 0, 1000000, false⟩) (t := 0 + dl) b0 b1 rfl (by show 0 + dl ≤ 1000000; omega)
    obtain ⟨s2, hs2, hA⟩ := nxt_AR h8 h2 b0 b1 (k := 1) (by omega) (by omega) (Se := 0) (G := 0) (D := 0 + 1000000) (t := 0 + dl) (row := 1) (by omega) (by omega) (by omega) (by omega) (by omega) (by omega) (by omega) (fun _ => rfl)
    refine ⟨_, s2, e, ?_, rfl, rfl, rfl, hs2, hA⟩
    exact smid_ok h8 h2 (k := 1) (Wt := false) (Dl := 0 + dl) b0 b1 (by omega) (by omega) (by omega) (by omega) (by omega) (by omega) (by omega)
  · have hg : gfr l j = cfr l j := by unfold gfr; rw [if_neg (by omega)]
    have hnx := rcv_next l j B G D now hj hlt tD
    have okr := mid_ok (D := D) h8 h2 hj hlt b0 b1 G0 (by omega) hGB (by omega) (by omega)
    refine ⟨okr, rfl, by omega, t0, by omega, r0, by omega, ?_⟩
    rcases hs with ⟨hend, rfl⟩ | ⟨hmore, Se, Wt, Dl, rfl, hw⟩
    · rw [if_pos hend] at hnx
      exact .inl ⟨by rw [hg, hnx], rfl⟩
    · rw [if_neg (by omega)] at hnx
      right
      have hj2 : j + 1 ≤ l.length / 7 := by omega
      rcases hw with ⟨rfl, hB, hG, rfl, rfl⟩ | ⟨rfl, rfl, hB⟩
      · rw [if_neg (by omega), if_pos hG] at hnx
        refine ⟨_, _, by rw [hg, hnx], rfl, rfl, smid_ok h8 h2 b0 b1 (by omega) hmore (by omega) (by omega) (by omega) (by omega) (by omega), rfl, hj2, .inl ⟨rfl, rfl⟩, fun _ dl d0 d1 => ?_, fun h => (by cases h)⟩
        have e := ctl_go (s := smid l B (j + 1) 0 true (now + 1000000)) (t := now + dl) b0 b1 rfl (by show now + dl ≤ now + 1000000; omega)
        obtain ⟨s2, hs2, hA⟩ := nxt_AR h8 h2 b0 b1 (k := j + 1) (by omega) hmore (Se := 0) (G := 0) (D := now + 1000000) (t := now + dl) (row := 1) (by omega) (by omega) (by omega) (by omega) (by omega) (by omega) (by omega) (fun _ => rfl)
        refine ⟨_, s2, e, ?_, rfl, rfl, rfl, hs2, hA⟩
        exact smid_ok h8 h2 (k := j + 1) (Wt := false) (Dl := now + dl) b0 b1 (by omega) hmore (by omega) (by omega) (by omega) (by omega) (by omega)
      · rcases hB with ⟨hB, rfl⟩ | ⟨hB, hG, rfl⟩
        · rw [if_pos hB] at hnx
          have hG0 := hB0 hB
          refine ⟨_, _, by rw [hg, hnx], rfl, rfl, smid_ok h8 h2 b0 b1 (by omega) hmore (by omega) (by omega) (by omega) (by omega) (by omega), rfl, hj2, .inr ⟨rfl, rfl⟩, fun h => (by cases h), fun _ => ⟨rfl, ?_⟩⟩
          exact nxt_AR h8 h2 b0 b1 (k := j + 1) (by omega) hmore (by omega) (by omega) (by omega) (by omega) (by omega) (by omega) (by omega) (fun h => by omega)
        · rw [if_neg (by omega), if_neg (by omega)] at hnx
          have hr := hrow hB
          refine ⟨_, _, by rw [hg, hnx], rfl, rfl, smid_ok h8 h2 b0 b1 (by omega) hmore (by omega) (by omega) (by omega) (by omega) (by omega), rfl, hj2, .inr ⟨rfl, rfl⟩, fun h => (by cases h), fun _ => ⟨rfl, ?_⟩⟩
          exact nxt_AR h8 h2 b0 b1 (k := j + 1) (by omega) hmore (by omega) (by omega) (by omega) (by omega) (by omega) (by omega) (by omega) (fun _ => by omega)
/-- the frames in a row never pass the block -/
theorem AR.row {l : List Int} {B : Int} {j : Nat} {s : SS} {r : RS} {now row : Int} (h : AR l B j s r now row) (hj : 1 ≤ j) (hB : 0 < B) : row ≤ B := by
  obtain ⟨_, _, _, _, ⟨h, _⟩ | ⟨h, _⟩ | ⟨_, _, _, G, D, _, _, _, _, h1, _, h2, _⟩⟩ := h
  · omega
  · omega
  · have := h2 hB; omega
end Go.Proofs.Ytfjeediecmhedaa
