/-
  The contract of readiness.Code, and the law file's own check of the examples. Condition: at most 1000 readinesses.
-/
import Derived.Test.YtomnhbbgndopnaaSteps
import Derived.Laws.BitsLemmas
set_option linter.unusedVariables false
namespace Go.Proofs.Ytomnhbbgndopnaa
open Go.RowKit
/-- a list of readinesses: cell by cell -/
def Rdys (w : World) (A : Option Addr) (len : Nat) (D R : Nat → Bool) (N M : Nat → Int) : Prop :=
  0 < len → ∃ b off, A = some ⟨b, off, none⟩ ∧ b < w.heap.size ∧ ∀ i, i < len → w.cell? ⟨b, off + i * 4, none⟩ = some (.bool (D i)) ∧ w.cell? ⟨b, off + i * 4 + 1, none⟩ = some (.bool (R i)) ∧ w.cell? ⟨b, off + i * 4 + 2, none⟩ = some (.int .i64 (N i)) ∧ w.cell? ⟨b, off + i * 4 + 3, none⟩ = some (.int .i64 (M i))
theorem Rdys.below {w w' : World} {A : Option Addr} {len : Nat} {D R : Nat → Bool} {N M : Nat → Int} (h : Rdys w A len D R N M) (hb : Below w.heap.size w w') : Rdys w' A len D R N M := fun h0 => by
  obtain ⟨b, off, rfl, hbl, hc⟩ := h h0
  obtain ⟨k, _⟩ := bcell hb
  exact ⟨b, off, rfl, Nat.lt_of_lt_of_le hbl hb.size, fun i hi => ⟨(k _ _ hbl).trans (hc i hi).1, (k _ _ hbl).trans (hc i hi).2.1, (k _ _ hbl).trans (hc i hi).2.2.1, (k _ _ hbl).trans (hc i hi).2.2.2⟩⟩
def allB (D R : Nat → Bool) (N M : Nat → Int) : Nat → Bool
  | 0 => true
  | k + 1 => allB D R N M k && vld (D k) (R k) (N k) (M k)
def cdV (D : Nat → Bool) : Nat → Int
  | 0 => 0
  | k + 1 => cdV D k + if D k then 0 else 2 ^ k
theorem allB_false {D R : Nat → Bool} {N M : Nat → Int} {k : Nat} (h : vld (D k) (R k) (N k) (M k) = false) : ∀ n, k < n → allB D R N M n = false
  | 0, hn => absurd hn (Nat.not_lt_zero _)
  | n + 1, hn => by
    show (allB D R N M n && vld (D n) (R n) (N n) (M n)) = false
    by_cases e : k = n
    · subst e; rw [h]; simp
    · rw [allB_false h n (by omega)]; rfl
theorem cdV_bd (D : Nat → Bool) : ∀ k, 0 ≤ cdV D k ∧ cdV D k < 2 ^ k
  | 0 => by show (0 : Int) ≤ 0 ∧ (0 : Int) < 2 ^ 0; decide
  | k + 1 => by
    obtain ⟨h0, h1⟩ := cdV_bd D k
    show 0 ≤ cdV D k + _ ∧ cdV D k + _ < 2 ^ (k + 1)
    rw [Int.pow_succ]
    split <;> omega
theorem pow_bd : ∀ k : Nat, k < 17 → (1 : Int) ≤ 2 ^ k ∧ (2 : Int) ^ k ≤ 65536 := by decide
theorem or_pow (x : Int) (k : Nat) (hk : k < 17) (h0 : 0 ≤ x) (h1 : x < 2 ^ k) : bits .or .i64 x (2 ^ k) = x + 2 ^ k := by
  obtain ⟨p0, p1⟩ := pow_bd k hk
  obtain ⟨a, rfl⟩ := Int.eq_ofNat_of_zero_le h0
  have hp : ((2 : Int) ^ k) = ((2 ^ k : Nat) : Int) := by norm_cast
  have hj := bits_join .i64 63 (by decide) (fun n h0 h1 => by rw [IntKind.wrap_i64]; omega) k (2 ^ k) (a : Int) (by omega) (by simp) (by omega) (by omega) h1 (by omega)
  have hc : bits .or .i64 (a : Int) (2 ^ k) = bits .or .i64 (2 ^ k) (a : Int) := by
    rw [hp, (bits_nat .i64 63 (by decide) (fun n h0 h1 => by rw [IntKind.wrap_i64]; omega) a (2 ^ k) (by omega) (by omega)).2, (bits_nat .i64 63 (by decide) (fun n h0 h1 => by rw [IntKind.wrap_i64]; omega) (2 ^ k) a (by omega) (by omega)).2, Nat.or_comm]
  rw [hc, hj]; omega
def cdE (D R : Nat → Bool) (N M : Nat → Int) (len : Nat) : Int := if 16 < len then 5 else if allB D R N M len then 0 else 1
def cdR (D R : Nat → Bool) (N M : Nat → Int) (len : Nat) : Int := if cdE D R N M len = 0 then cdV D len else 0
theorem code11 (A : Option Addr) (len cap : Nat) (D R : Nat → Bool) (N M : Nat → Int) (w : World) (hs : Rdys w A len D R N M) (hlm : len ≤ 1000) :
    Calls Try.prog 11 #[.slice A len cap] w fun r w' => r = .returned (.tuple #[.int .i64 (cdR D R N M len), .int .i64 (cdE D R N M len)]) ∧ Below w.heap.size w w' := by
  by_cases h16 : 16 < len
  · have e1 : cdE D R N M len = 5 := by simp [cdE, h16]
    have e2 : cdR D R N M len = 0 := by simp [cdR, e1]
    rw [e1, e2]; clear e1 e2
    go_enter Try.func11, Try.ntmps11
    go_wp2
    go_ret2
    exact ⟨rfl, Below.refl _ _⟩
  · have HS := Lib.hid hs
    clear hs
    obtain ⟨E, hE⟩ : ∃ E, E = cdE D R N M len := ⟨_, rfl⟩
    obtain ⟨X, hX⟩ : ∃ X, X = cdR D R N M len := ⟨_, rfl⟩
    rw [← hE, ← hX]
    have HE := Lib.hid (And.intro hE hX)
    clear hE hX
    go_enter Try.func11, Try.ntmps11
    go_wp2
    go_loopw [4, 12] (fun c i wr => ∃ (k : Nat) (C : Int), k ≤ len ∧ i = .int .i64 k ∧ c = .int .i64 C ∧ Hid (C = cdV D k ∧ allB D R N M k = true) ∧ 0 ≤ C ∧ C ≤ 65536 ∧ Below w.heap.size w wr)
      (fun _ i _ => len - (intOf i).toNat)
    case atStart => exact ⟨0, 0, Nat.zero_le _, rfl, rfl, ⟨rfl, rfl⟩, by omega, by omega, Below.refl _ _⟩
    case round =>
      obtain ⟨k, C, hk, rfl, rfl, HC, hC0, hC1, hbl⟩ := hrel
      by_cases hlt : k < len
      · obtain ⟨b, off, rfl, hb, hcell⟩ := HS.out (by omega)
        obtain ⟨d0, d1, d2, d3⟩ := hcell k hlt
        have hsz := hbl.size
        have hc := (bcell hbl).1
        have d0 := (hc _ _ hb).trans d0
        have d1 := (hc _ _ hb).trans d1
        have d2 := (hc _ _ hb).trans d2
        have d3 := (hc _ _ hb).trans d3
        clear hcell hc
        obtain ⟨vd, hvd⟩ : ∃ x, x = D k := ⟨_, rfl⟩
        obtain ⟨vr, hvr⟩ : ∃ x, x = R k := ⟨_, rfl⟩
        obtain ⟨vn, hvn⟩ : ∃ x, x = N k := ⟨_, rfl⟩
        obtain ⟨vm, hvm⟩ : ∃ x, x = M k := ⟨_, rfl⟩
        rw [← hvd] at d0
        rw [← hvr] at d1
        rw [← hvn] at d2
        rw [← hvm] at d3
        have HV := Lib.hid (And.intro hvd (And.intro hvr (And.intro hvn hvm)))
        clear hvd hvr hvn hvm
        have hp := pow_bd k (by omega)
        have ho : bits .or .i64 C (2 ^ k) = C + 2 ^ k := or_pow C k (by omega) hC0 (by rw [HC.out.1]; exact (cdV_bd D k).2)
        obtain ⟨P, hP⟩ : ∃ P : Int, (2 : Int) ^ k = P := ⟨_, rfl⟩
        rw [hP] at hp ho
        have hCk : C + P ≤ 65536 := by
          have h1 := (cdV_bd D k).2
          rw [← HC.out.1, hP] at h1
          have h2 := pow_bd (k + 1) (by omega)
          rw [Int.pow_succ, hP] at h2
          omega
        cases hv : vld vd vr vn vm
        all_goals
          go_wp2_with fail
          refine (valid20 _ _ _ _ _).mono ?_
          rintro r w2 ⟨rfl, hb2⟩
          have hg2 := chain (w := w) (by go_grown) hb2
          have hc2 := (bcell hb2).1
          have sz2 := hb2.size
          simp at sz2
          have u0 : w2.cell? ⟨wr.heap.size, 0, none⟩ = some (.bool vd) := (hc2 _ _ (by simp)).trans (by go_cell)
          clear hc2 hb2 d0 d1 d2 d3
          cases vd
          all_goals go_wp2
        all_goals
          obtain ⟨v1, v2, v3, v4⟩ := HV.out
          obtain ⟨c1, c2⟩ := HC.out
          obtain ⟨x1, x2⟩ := HE.out
        · go_ret2
          have hf := allB_false (D := D) (R := R) (N := N) (M := M) (k := k) (by rw [← v1, ← v2, ← v3, ← v4]; exact hv) len hlt
          have x1 : E = 1 := by rw [x1]; unfold cdE; rw [if_neg h16, hf]; simp
          refine ⟨ret_ii ?_ x1.symm, hg2⟩
          rw [x2]; unfold cdR; rw [← HE.out.1, x1]; simp
        · go_ret2
          have hf := allB_false (D := D) (R := R) (N := N) (M := M) (k := k) (by rw [← v1, ← v2, ← v3, ← v4]; exact hv) len hlt
          have x1 : E = 1 := by rw [x1]; unfold cdE; rw [if_neg h16, hf]; simp
          refine ⟨ret_ii ?_ x1.symm, hg2⟩
          rw [x2]; unfold cdR; rw [← HE.out.1, x1]; simp
        · have st : allB D R N M (k + 1) = true := by
            show (allB D R N M k && vld (D k) (R k) (N k) (M k)) = true
            rw [c2, ← v1, ← v2, ← v3, ← v4, hv]; rfl
          have st2 : C + P = cdV D (k + 1) := by
            show C + P = cdV D k + (if D k then 0 else 2 ^ k)
            rw [← v1, ← c1, ← hP]; simp
          go_roundw
          case rel => exact ⟨k + 1, C + P, by omega, by go_num, rfl, ⟨st2, st⟩, by omega, by omega, hg2⟩
          case measure => simp [intOf]; omega
        · have st : allB D R N M (k + 1) = true := by
            show (allB D R N M k && vld (D k) (R k) (N k) (M k)) = true
            rw [c2, ← v1, ← v2, ← v3, ← v4, hv]; rfl
          have st2 : C = cdV D (k + 1) := by
            show C = cdV D k + (if D k then 0 else 2 ^ k)
            rw [← v1, ← c1]; simp
          go_roundw
          case rel => exact ⟨k + 1, C, by omega, by go_num, rfl, ⟨st2, st⟩, by omega, by omega, hg2⟩
          case measure => simp [intOf]; omega
      · obtain rfl : k = len := by omega
        go_wp2
        go_ret2
        obtain ⟨c1, c2⟩ := HC.out
        obtain ⟨x1, x2⟩ := HE.out
        have x1 : E = 0 := by rw [x1]; unfold cdE; rw [if_neg h16, if_pos c2]
        refine ⟨ret_ii ?_ x1.symm, hbl⟩
        rw [x2]; unfold cdR; rw [← HE.out.1, if_pos x1]; exact c1
theorem awake7 (w : World) : Calls Try.prog 7 #[] w fun r w' => r = .returned (.bool true) ∧ Below w.heap.size w w' := by
  have A := Lib.hid (fun w => step8 false false true true 65535 65535 w true true 32768 32767 0 (.inr (.inr (.inr (.inr ⟨by decide, rfl, rfl, rfl, rfl, rfl, by decide, by decide, rfl⟩)))))
  have B := Lib.hid (fun w => step8 true true true true 32768 32767 w true true 32768 32767 0 (.inr (.inr (.inr (.inl ⟨by decide, rfl, rfl, rfl, rfl, rfl, rfl, rfl, rfl⟩)))))
  have C := Lib.hid (fun A w hs => code11 A 3 3 (fun i => i == 1) (fun _ => false) (fun _ => 0) (fun _ => 0) w hs (by omega))
  have e1 : cdE (fun i => i == 1) (fun _ => false) (fun _ => 0) (fun _ => 0) 3 = 0 := by decide
  have e2 : cdR (fun i => i == 1) (fun _ => false) (fun _ => 0) (fun _ => 0) 3 = 5 := by decide
  rw [e1, e2] at C
  clear e1 e2
  go_enter Try.func7, Try.ntmps7
  go_wp2_with fail
  refine (A.out _).mono ?_
  rintro r w1 ⟨rfl, hb1⟩
  have sz1 := hb1.size
  go_wp2_with fail
  refine (B.out _).mono ?_
  rintro r w2 ⟨rfl, hb2⟩
  have hg2 := chain (w := w) (by go_grown) hb2
  have hc2 := (bcell hb2).1
  have sz2 := hb2.size
  simp at sz2
  have u0 : w2.cell? ⟨w1.heap.size, 0, none⟩ = some (.bool true) := (hc2 _ _ (by simp)).trans (by go_cell)
  have u1 : w2.cell? ⟨w1.heap.size, 1, none⟩ = some (.bool true) := (hc2 _ _ (by simp)).trans (by go_cell)
  have u2 : w2.cell? ⟨w1.heap.size, 2, none⟩ = some (.int .i64 32768) := (hc2 _ _ (by simp)).trans (by go_cell)
  have u3 : w2.cell? ⟨w1.heap.size, 3, none⟩ = some (.int .i64 32767) := (hc2 _ _ (by simp)).trans (by go_cell)
  have z2 : w1.heap.size < w2.heap.size := by omega
  clear hc2 hb2
  go_wp2_with fail
  refine (C.out _ _ ?_).mono ?_
  · exact fun _ => ⟨w2.heap.size + 1, 0, rfl, by simp, fun i hi => by
      match i, hi with
      | 0, _ => exact ⟨show _ = some (Value.bool false) by go_cell, show _ = some (Value.bool false) by go_cell, show _ = some (Value.int .i64 0) by go_cell, show _ = some (Value.int .i64 0) by go_cell⟩
      | 1, _ => exact ⟨show _ = some (Value.bool true) by go_cell, show _ = some (Value.bool false) by go_cell, show _ = some (Value.int .i64 0) by go_cell, show _ = some (Value.int .i64 0) by go_cell⟩
      | 2, _ => exact ⟨show _ = some (Value.bool false) by go_cell, show _ = some (Value.bool false) by go_cell, show _ = some (Value.int .i64 0) by go_cell, show _ = some (Value.int .i64 0) by go_cell⟩⟩
  rintro r w3 ⟨rfl, hb3⟩
  have hg3 := chain (w := w) (by go_grown) hb3
  have hc3 := (bcell hb3).1
  have sz3 := hb3.size
  simp at sz3
  have v0 : w3.cell? ⟨w1.heap.size, 0, none⟩ = some (.bool true) := (hc3 _ _ (by simp; omega)).trans (by go_cell)
  have v1 : w3.cell? ⟨w1.heap.size, 1, none⟩ = some (.bool true) := (hc3 _ _ (by simp; omega)).trans (by go_cell)
  have v2 : w3.cell? ⟨w1.heap.size, 2, none⟩ = some (.int .i64 32768) := (hc3 _ _ (by simp; omega)).trans (by go_cell)
  have v3 : w3.cell? ⟨w1.heap.size, 3, none⟩ = some (.int .i64 32767) := (hc3 _ _ (by simp; omega)).trans (by go_cell)
  have y0 : w3.cell? ⟨w2.heap.size, 0, none⟩ = some (.bool true) := (hc3 _ _ (by simp; omega)).trans (by go_cell)
  have y1 : w3.cell? ⟨w2.heap.size, 1, none⟩ = some (.bool true) := (hc3 _ _ (by simp; omega)).trans (by go_cell)
  have y2 : w3.cell? ⟨w2.heap.size, 2, none⟩ = some (.int .i64 32768) := (hc3 _ _ (by simp; omega)).trans (by go_cell)
  have y3 : w3.cell? ⟨w2.heap.size, 3, none⟩ = some (.int .i64 32767) := (hc3 _ _ (by simp; omega)).trans (by go_cell)
  clear hc3 hb3
  go_wp2
  go_ret
  exact ⟨rfl, hg3⟩
end Go.Proofs.Ytomnhbbgndopnaa
