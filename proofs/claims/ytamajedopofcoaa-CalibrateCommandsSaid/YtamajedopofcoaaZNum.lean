/-
  The contracts of number and of its reference. No condition but the slice's shape.
-/
import Derived.Test.YtamajedopofcoaaZC
set_option linter.unusedVariables false
set_option linter.unusedSimpArgs false
namespace Go.Proofs.Ytamajedopofcoaa
open Go.RowKit
/-- the number that bytes make -/
def numL (l : List Int) : Int := l.foldl (fun n c => n * 256 + c) 0
theorem numL_take {l : List Int} {k : Nat} {x : Int} (h : l[k]? = some x) : numL (l.take (k + 1)) = numL (l.take k) * 256 + x := by
  unfold numL
  rw [List.take_add_one, h]
  simp
theorem numL_lt {l : List Int} (hb : ∀ x ∈ l, 0 ≤ x ∧ x ≤ 255) : ∀ k, k ≤ l.length → 0 ≤ numL (l.take k) ∧ numL (l.take k) < 256 ^ k := by
  intro k
  induction k with
  | zero => intro _; simp [numL]
  | succ k ih =>
    intro hk
    have hk' : k < l.length := hk
    obtain ⟨h1, h2⟩ := ih (by omega)
    have hx := hb l[k] (List.getElem_mem hk')
    rw [numL_take (List.getElem?_eq_getElem hk'), Int.pow_succ]
    omega
theorem u64_or_nat (a b : Nat) (ha : a < 18446744073709551616) (hb : b < 18446744073709551616) : bits .or .u64 (a : Int) (b : Int) = ((a ||| b : Nat) : Int) := by
  have h : a ||| b < 2 ^ 64 := Nat.or_lt_two_pow (by omega) (by omega)
  have ea : BitVec.ofInt 64 (a : Int) = BitVec.ofNat 64 a := by simp
  have eb : BitVec.ofInt 64 (b : Int) = BitVec.ofNat 64 b := by simp
  show IntKind.u64.wrap ((BitVec.ofInt 64 (a : Int) ||| BitVec.ofInt 64 (b : Int)).toNat : Int) = _
  rw [ea, eb, BitVec.toNat_or, BitVec.toNat_ofNat, BitVec.toNat_ofNat, Nat.mod_eq_of_lt (a := a) (by omega), Nat.mod_eq_of_lt (a := b) (by omega), IntKind.wrap_u64]
  omega
theorem u64_or256 {a y : Int} (h0 : 0 ≤ a) (h1 : a < 72057594037927936) (y0 : 0 ≤ y) (y1 : y ≤ 255) : bits .or .u64 (a * 256) y = a * 256 + y := by
  obtain ⟨n, rfl⟩ : ∃ n : Nat, a = n := ⟨a.toNat, by omega⟩
  obtain ⟨m, rfl⟩ : ∃ m : Nat, y = m := ⟨y.toNat, by omega⟩
  have e : ((n : Int) * 256) = ((n * 256 : Nat) : Int) := by omega
  rw [e, u64_or_nat _ _ (by omega) (by omega)]
  have := Nat.shiftLeft_add_eq_or_of_lt (b := m) (i := 8) (by omega) n
  rw [Nat.shiftLeft_eq] at this
  have h2 : n * 256 ||| m = n * 256 + m := by simpa using this.symm
  rw [h2]; omega
set_option maxRecDepth 100000 in
set_option maxHeartbeats 16000000 in
theorem number54 (b o n c : Nat) (l : List Int) (w : World) (hn : 8 ≤ n) (hc : n ≤ c) (hl : l.length = 8) (hb : Ik .u8 w (some ⟨b, o, none⟩) l) (hx : ∀ x ∈ l, 0 ≤ x ∧ x ≤ 255) : Calls Try.prog 54 #[.slice (some ⟨b, o, none⟩) n c] w fun r w' => r = .returned (.int .i64 (IntKind.i64.wrap (numL l))) ∧ Below w.heap.size w w' := by
  have HL := Lib.hid hl
  have HB := Lib.hid hb
  have HX := Lib.hid hx
  have hc8 : (8 : Int) ≤ (n : Int) := by omega
  have hc9 : (8 : Int) ≤ (c : Int) := by omega
  have hc7 : (n : Int) ≤ (c : Int) := by omega
  clear hl hb hx
  go_enter Try.func54, Try.ntmps54
  go_upto_region 3 with fail
  go_loopg [3, 9] 8 (fun gk v3 vk wr => ∃ k : Nat, k ≤ 8 ∧ 8 - k ≤ gk ∧ vk = .int .i64 k ∧ v3 = .int .u64 (numL (l.take k)) ∧ Below w.heap.size w wr)
  case atStart => exact ⟨0, by omega, by omega, rfl, rfl, Below.refl _ _⟩
  case round =>
    obtain ⟨k, hk, hgk, rfl, rfl, hg⟩ := hrel
    by_cases hlt : k < 8
    · obtain ⟨q1, hbl⟩ := (HB.out.below hg).at k (by rw [HL.out]; exact hlt)
      obtain ⟨x, hx⟩ : ∃ x, x = l.getD k 0 := ⟨_, rfl⟩
      have hkl : k < l.length := by rw [HL.out]; exact hlt
      have hlk : l[k]? = some x := by rw [hx]; simp [List.getD, List.getElem?_eq_getElem hkl]
      obtain ⟨x0, x1⟩ := HX.out x (List.mem_of_getElem? hlk)
      obtain ⟨a0, a1⟩ := numL_lt HX.out k (by omega)
      have ht := numL_take hlk
      have hp : (256 : Int) ^ k ≤ 256 ^ 7 := by
        have : (256 : Nat) ^ k ≤ 256 ^ 7 := Nat.pow_le_pow_right (by omega) (by omega)
        exact_mod_cast this
      have hp7 : (256 : Int) ^ 7 = 72057594037927936 := by decide
      obtain ⟨a, ha⟩ : ∃ a, a = numL (l.take k) := ⟨_, rfl⟩
      rw [← ha] at a0 a1 ht
      rw [← hx] at q1
      rw [← ha]
      have hor := u64_or256 (a := a) (y := x) a0 (by omega) x0 x1
      have a2 : a < 72057594037927936 := by omega
      have HT := Lib.hid ht
      have HA := Lib.hid ha
      have HO := Lib.hid hor
      clear hx hlk hkl ht ha hor hp hp7 a1
      go_wp2_with fail
      go_roundg (8 - (k + 1))
      case measure => omega
      case rel => exact ⟨k + 1, by omega, by omega, by go_num, by rw [HT.out, ← HO.out], hg⟩
    · obtain rfl : k = 8 := by omega
      have h8 : l.take 8 = l := by rw [← HL.out, List.take_length]
      have H8 := Lib.hid h8
      clear h8
      go_wp2
      go_ret
      rw [H8.out]
      exact ⟨ret_int (by simp [IntKind.wrap_i64, wrap64]), hg⟩
set_option maxRecDepth 100000 in
set_option maxHeartbeats 16000000 in
theorem rnumber59 (b o n c : Nat) (l : List Int) (w : World) (hn : 8 ≤ n) (hc : n ≤ c) (hl : l.length = 8) (hb : Ik .u8 w (some ⟨b, o, none⟩) l) (hx : ∀ x ∈ l, 0 ≤ x ∧ x ≤ 255) : Calls Try.prog 59 #[.slice (some ⟨b, o, none⟩) n c] w fun r w' => r = .returned (.int .i64 (IntKind.i64.wrap (numL l))) ∧ Below w.heap.size w w' := by
  have HL := Lib.hid hl
  have HB := Lib.hid hb
  have HX := Lib.hid hx
  have hc8 : (8 : Int) ≤ (n : Int) := by omega
  have hc9 : (8 : Int) ≤ (c : Int) := by omega
  have hc7 : (n : Int) ≤ (c : Int) := by omega
  clear hl hb hx
  go_enter Try.func59, Try.ntmps59
  go_upto_region 3 with fail
  go_loopg [3, 4] 8 (fun gk v3 vk wr => ∃ k : Nat, k ≤ 8 ∧ 8 - k ≤ gk ∧ vk = .int .i64 k ∧ v3 = .int .u64 (numL (l.take k)) ∧ Below w.heap.size w wr)
  case atStart => exact ⟨0, by omega, by omega, rfl, rfl, Below.refl _ _⟩
  case round =>
    obtain ⟨k, hk, hgk, rfl, rfl, hg⟩ := hrel
    by_cases hlt : k < 8
    · obtain ⟨q1, hbl⟩ := (HB.out.below hg).at k (by rw [HL.out]; exact hlt)
      obtain ⟨x, hx⟩ : ∃ x, x = l.getD k 0 := ⟨_, rfl⟩
      have hkl : k < l.length := by rw [HL.out]; exact hlt
      have hlk : l[k]? = some x := by rw [hx]; simp [List.getD, List.getElem?_eq_getElem hkl]
      obtain ⟨x0, x1⟩ := HX.out x (List.mem_of_getElem? hlk)
      obtain ⟨a0, a1⟩ := numL_lt HX.out k (by omega)
      have ht := numL_take hlk
      have hp : (256 : Int) ^ k ≤ 256 ^ 7 := by
        have : (256 : Nat) ^ k ≤ 256 ^ 7 := Nat.pow_le_pow_right (by omega) (by omega)
        exact_mod_cast this
      have hp7 : (256 : Int) ^ 7 = 72057594037927936 := by decide
      obtain ⟨a, ha⟩ : ∃ a, a = numL (l.take k) := ⟨_, rfl⟩
      rw [← ha] at a0 a1 ht
      rw [← hx] at q1
      rw [← ha]
      have hor := u64_or256 (a := a) (y := x) a0 (by omega) x0 x1
      have a2 : a < 72057594037927936 := by omega
      have HT := Lib.hid ht
      have HA := Lib.hid ha
      have HO := Lib.hid hor
      clear hx hlk hkl ht ha hor hp hp7 a1
      go_wp2_with fail
      go_roundg (8 - (k + 1))
      case measure => omega
      case rel => exact ⟨k + 1, by omega, by omega, by go_num, by rw [HT.out, ← HO.out], hg⟩
    · obtain rfl : k = 8 := by omega
      have h8 : l.take 8 = l := by rw [← HL.out, List.take_length]
      have H8 := Lib.hid h8
      clear h8
      go_wp2
      go_ret
      rw [H8.out]
      exact ⟨ret_int (by simp [IntKind.wrap_i64, wrap64]), hg⟩
end Go.Proofs.Ytamajedopofcoaa
