/-
  The contract of the reference's Code. No condition but the slice's shape.
-/
import Derived.Test.YtomnhbbgndopnaaCode
import Derived.Test.YtomnhbbgndopnaaHeld
import Derived.RegionTactic
import Derived.Deep.LoopGhost
import Derived.Deep.Draws
set_option linter.unusedVariables false
namespace Go.Proofs.Ytomnhbbgndopnaa
open Go.RowKit
theorem code12 (A : Option Addr) (len cap : Nat) (D R : Nat → Bool) (N M : Nat → Int) (w : World) (hs : Rdys w A len D R N M) (hlm : len ≤ 1000) :
    Calls Try.prog 12 #[.slice A len cap] w fun r w' => r = .returned (.tuple #[.int .i64 (cdR D R N M len), .int .i64 (cdE D R N M len)]) ∧ Below w.heap.size w w' := by
  by_cases h16 : 16 < len
  · have e1 : cdE D R N M len = 5 := by simp [cdE, h16]
    have e2 : cdR D R N M len = 0 := by simp [cdR, e1]
    rw [e1, e2]; clear e1 e2
    go_enter Try.func12, Try.ntmps12
    go_wp2
    go_ret2
    exact ⟨rfl, Below.refl _ _⟩
  · have HS := Lib.hid hs
    clear hs
    obtain ⟨E, hE⟩ : ∃ E, E = cdE D R N M len := ⟨_, rfl⟩
    obtain ⟨X, hX⟩ : ∃ X, X = cdR D R N M len := ⟨_, rfl⟩
    rw [← hE, ← hX]
    have HE := Lib.hid (And.intro hE hX)
    clear hE hX
    go_enter Try.func12, Try.ntmps12
    go_wp2
    go_loopw [4, 5] (fun c i wr => ∃ (k : Nat) (C : Int), k ≤ len ∧ i = .int .i64 k ∧ c = .int .i64 C ∧ Hid (C = cdV D k ∧ allB D R N M k = true) ∧ 0 ≤ C ∧ C ≤ 65536 ∧ Below w.heap.size w wr)
      (fun _ i _ => len - (intOf i).toNat)
    case atStart => exact ⟨0, 0, Nat.zero_le _, rfl, rfl, ⟨rfl, rfl⟩, by omega, by omega, Below.refl _ _⟩
    case round =>
      obtain ⟨k, C, hk, rfl, rfl, HC, hC0, hC1, hbl⟩ := hrel
      by_cases hlt : k < len
      · obtain ⟨b, off, rfl, hb, hcell⟩ := HS.out (by omega)
        obtain ⟨d0, d1, d2, d3⟩ := hcell k hlt
        have hsz := hbl.size
        have hbz : b < wr.heap.size := by omega
        have hc := (bcell hbl).1
        have d0 := (hc _ _ hb).trans d0
        have d1 := (hc _ _ hb).trans d1
        have d2 := (hc _ _ hb).trans d2
        have d3 := (hc _ _ hb).trans d3
        clear hcell hc
        obtain ⟨vd, hvd⟩ : ∃ x, x = D k := ⟨_, rfl⟩
        obtain ⟨vr, hvr⟩ : ∃ x, x = R k := ⟨_, rfl⟩
        obtain ⟨vn, hvn⟩ : ∃ x, x = N k := ⟨_, rfl⟩
        obtain ⟨vm, hvm⟩ : ∃ x, x = M k := ⟨_, rfl⟩
        rw [← hvd] at d0
        rw [← hvr] at d1
        rw [← hvn] at d2
        rw [← hvm] at d3
        have HV := Lib.hid (And.intro hvd (And.intro hvr (And.intro hvn hvm)))
        clear hvd hvr hvn hvm
        have hp := pow_bd k (by omega)
        have ho : bits .or .i64 C (2 ^ k) = C + 2 ^ k := or_pow C k (by omega) hC0 (by rw [HC.out.1]; exact (cdV_bd D k).2)
        obtain ⟨P, hP⟩ : ∃ P : Int, (2 : Int) ^ k = P := ⟨_, rfl⟩
        rw [hP] at hp ho
        have hCk : C + P ≤ 65536 := by
          have h1 := (cdV_bd D k).2
          rw [← HC.out.1, hP] at h1
          have h2 := pow_bd (k + 1) (by omega)
          rw [Int.pow_succ, hP] at h2
          omega
        cases hv : vld vd vr vn vm
        all_goals
          go_wp2_with fail
          refine (valid10 _ _ _ _ _).mono ?_
          rintro r w2 ⟨rfl, hb2⟩
          have hg2 := chain (w := w) (by go_grown) hb2
          have hc2 := (bcell hb2).1
          have u0 := (hc2 _ _ hbz).trans d0
          clear hc2 hb2 d0 d1 d2 d3
          cases vd
          all_goals go_wp2
        all_goals
          obtain ⟨v1, v2, v3, v4⟩ := HV.out
          obtain ⟨c1, c2⟩ := HC.out
          obtain ⟨x1, x2⟩ := HE.out
        · go_ret2
          have hf := allB_false (D := D) (R := R) (N := N) (M := M) (k := k) (by rw [← v1, ← v2, ← v3, ← v4]; exact hv) len hlt
          have x1 : E = 1 := by rw [x1]; unfold cdE; rw [if_neg h16, hf]; simp
          refine ⟨ret_ii ?_ x1.symm, hg2⟩
          rw [x2]; unfold cdR; rw [← HE.out.1, x1]; simp
        · go_ret2
          have hf := allB_false (D := D) (R := R) (N := N) (M := M) (k := k) (by rw [← v1, ← v2, ← v3, ← v4]; exact hv) len hlt
          have x1 : E = 1 := by rw [x1]; unfold cdE; rw [if_neg h16, hf]; simp
          refine ⟨ret_ii ?_ x1.symm, hg2⟩
          rw [x2]; unfold cdR; rw [← HE.out.1, x1]; simp
        · have st : allB D R N M (k + 1) = true := by
            show (allB D R N M k && vld (D k) (R k) (N k) (M k)) = true
            rw [c2, ← v1, ← v2, ← v3, ← v4, hv]; rfl
          have st2 : C + P = cdV D (k + 1) := by
            show C + P = cdV D k + (if D k then 0 else 2 ^ k)
            rw [← v1, ← c1, ← hP]; simp
          go_roundw
          case rel => exact ⟨k + 1, C + P, by omega, by go_num, rfl, ⟨st2, st⟩, by omega, by omega, hg2⟩
          case measure => simp [intOf]; omega
        · have st : allB D R N M (k + 1) = true := by
            show (allB D R N M k && vld (D k) (R k) (N k) (M k)) = true
            rw [c2, ← v1, ← v2, ← v3, ← v4, hv]; rfl
          have st2 : C = cdV D (k + 1) := by
            show C = cdV D k + (if D k then 0 else 2 ^ k)
            rw [← v1, ← c1]; simp
          go_roundw
          case rel => exact ⟨k + 1, C, by omega, by go_num, rfl, ⟨st2, st⟩, by omega, by omega, hg2⟩
          case measure => simp [intOf]; omega
      · obtain rfl : k = len := by omega
        go_wp2
        go_ret2
        obtain ⟨c1, c2⟩ := HC.out
        obtain ⟨x1, x2⟩ := HE.out
        have x1 : E = 0 := by rw [x1]; unfold cdE; rw [if_neg h16, if_pos c2]
        refine ⟨ret_ii ?_ x1.symm, hbl⟩
        rw [x2]; unfold cdR; rw [← HE.out.1, if_pos x1]; exact c1
end Go.Proofs.Ytomnhbbgndopnaa
