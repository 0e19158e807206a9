/-
  The contracts of index and of its reference. No condition but the slice's length.
-/
import Derived.Test.YtamajedopofcoaaComP
set_option linter.unusedVariables false
set_option linter.unusedSimpArgs false
namespace Go.Proofs.Ytamajedopofcoaa
open Go.RowKit
theorem i64_or_nat (a b : Nat) (ha : a < 4611686018427387904) (hb : b < 4611686018427387904) : bits .or .i64 (a : Int) (b : Int) = ((a ||| b : Nat) : Int) := by
  have h : a ||| b < 2 ^ 62 := Nat.or_lt_two_pow (by omega) (by omega)
  have ea : BitVec.ofInt 64 (a : Int) = BitVec.ofNat 64 a := by simp
  have eb : BitVec.ofInt 64 (b : Int) = BitVec.ofNat 64 b := by simp
  show IntKind.i64.wrap ((BitVec.ofInt 64 (a : Int) ||| BitVec.ofInt 64 (b : Int)).toNat : Int) = _
  rw [ea, eb, BitVec.toNat_or, BitVec.toNat_ofNat, BitVec.toNat_ofNat, Nat.mod_eq_of_lt (a := a) (by omega), Nat.mod_eq_of_lt (a := b) (by omega), IntKind.wrap_i64]
  omega
theorem i64_or256 {a y : Int} (h0 : 0 ≤ a) (h1 : a ≤ 1000000) (y0 : 0 ≤ y) (y1 : y ≤ 255) : bits .or .i64 (a * 256) y = a * 256 + y := by
  obtain ⟨n, rfl⟩ : ∃ n : Nat, a = n := ⟨a.toNat, by omega⟩
  obtain ⟨m, rfl⟩ : ∃ m : Nat, y = m := ⟨y.toNat, by omega⟩
  have e : ((n : Int) * 256) = ((n * 256 : Nat) : Int) := by omega
  rw [e, i64_or_nat _ _ (by omega) (by omega)]
  have := Nat.shiftLeft_add_eq_or_of_lt (b := m) (i := 8) (by omega) n
  rw [Nat.shiftLeft_eq] at this
  have h2 : n * 256 ||| m = n * 256 + m := by simpa using this.symm
  rw [h2]; omega
set_option maxRecDepth 100000 in
set_option maxHeartbeats 16000000 in
theorem index52 (b o n c : Nat) (x y : Int) (w : World) (hn : 2 ≤ n) (hc : n ≤ c) (h1 : w.cell? ⟨b, o, none⟩ = some (.int .u8 x)) (h2 : w.cell? ⟨b, o + 1, none⟩ = some (.int .u8 y)) (x0 : 0 ≤ x) (x1 : x ≤ 255) (y0 : 0 ≤ y) (y1 : y ≤ 255) : Calls Try.prog 52 #[.slice (some ⟨b, o, none⟩) n c] w fun r w' => r = .returned (.int .i64 (x * 256 + y)) ∧ Below w.heap.size w w' := by
  have n1 : (0 : Int) < (n : Int) := by omega
  have n2 : (1 : Int) < (n : Int) := by omega
  have HO := Lib.hid (i64_or256 (a := x) (y := y) x0 (by omega) y0 y1)
  go_enter Try.func52, Try.ntmps52
  go_upto_region 1 with fail
  go_region
  go_wp2_with fail
  go_ret
  exact ⟨by rw [← HO.out]; rfl, (Below.refl _ _).drew⟩
set_option maxRecDepth 100000 in
set_option maxHeartbeats 16000000 in
theorem rindex57 (b o n c : Nat) (x y : Int) (w : World) (hn : 2 ≤ n) (hc : n ≤ c) (h1 : w.cell? ⟨b, o, none⟩ = some (.int .u8 x)) (h2 : w.cell? ⟨b, o + 1, none⟩ = some (.int .u8 y)) (x0 : 0 ≤ x) (x1 : x ≤ 255) (y0 : 0 ≤ y) (y1 : y ≤ 255) : Calls Try.prog 57 #[.slice (some ⟨b, o, none⟩) n c] w fun r w' => r = .returned (.int .i64 (x * 256 + y)) ∧ Below w.heap.size w w' := by
  have n1 : (0 : Int) < (n : Int) := by omega
  have n2 : (1 : Int) < (n : Int) := by omega
  have HO := Lib.hid (i64_or256 (a := x) (y := y) x0 (by omega) y0 y1)
  go_enter Try.func57, Try.ntmps57
  go_upto_region 1 with fail
  go_region
  go_wp2_with fail
  go_ret
  exact ⟨by rw [← HO.out]; rfl, (Below.refl _ _).drew⟩
end Go.Proofs.Ytamajedopofcoaa
