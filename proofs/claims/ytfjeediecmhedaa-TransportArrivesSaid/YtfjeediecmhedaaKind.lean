/-
  The contracts of kind and of the reference's Kind. No condition but the slice's shape and that its numbers are bytes.
-/
import Derived.Test.YtfjeediecmhedaaBytes
import Derived.Laws.BitsAllLaws
set_option linter.unusedVariables false
set_option linter.unusedSimpArgs false
namespace Go.Proofs.Ytfjeediecmhedaa
open Go.RowKit
theorem i64_or_nat (a b : Nat) (ha : a < 4611686018427387904) (hb : b < 4611686018427387904) : bits .or .i64 (a : Int) (b : Int) = ((a ||| b : Nat) : Int) := by
  have h : a ||| b < 2 ^ 62 := Nat.or_lt_two_pow (by omega) (by omega)
  have ea : BitVec.ofInt 64 (a : Int) = BitVec.ofNat 64 a := by simp
  have eb : BitVec.ofInt 64 (b : Int) = BitVec.ofNat 64 b := by simp
  show IntKind.i64.wrap ((BitVec.ofInt 64 (a : Int) ||| BitVec.ofInt 64 (b : Int)).toNat : Int) = _
  rw [ea, eb, BitVec.toNat_or, BitVec.toNat_ofNat, BitVec.toNat_ofNat, Nat.mod_eq_of_lt (a := a) (by omega), Nat.mod_eq_of_lt (a := b) (by omega), IntKind.wrap_i64]
  omega
theorem i64_or256 {a y : Int} (h0 : 0 ≤ a) (h1 : a ≤ 1000000) (y0 : 0 ≤ y) (y1 : y ≤ 255) : bits .or .i64 (a * 256) y = a * 256 + y := by
  obtain ⟨n, rfl⟩ : ∃ n : Nat, a = n := ⟨a.toNat, by omega⟩
  obtain ⟨m, rfl⟩ : ∃ m : Nat, y = m := ⟨y.toNat, by omega⟩
  have e : ((n : Int) * 256) = ((n * 256 : Nat) : Int) := by omega
  rw [e, i64_or_nat _ _ (by omega) (by omega)]
  have := Nat.shiftLeft_add_eq_or_of_lt (b := m) (i := 8) (by omega) n
  rw [Nat.shiftLeft_eq] at this
  have h2 : n * 256 ||| m = n * 256 + m := by simpa using this.symm
  rw [h2]; omega
theorem i64_or16 {a y : Int} (h0 : 0 ≤ a) (h1 : a ≤ 1000000) (y0 : 0 ≤ y) (y1 : y ≤ 15) : bits .or .i64 (a * 16) y = a * 16 + y := by
  obtain ⟨n, rfl⟩ : ∃ n : Nat, a = n := ⟨a.toNat, by omega⟩
  obtain ⟨m, rfl⟩ : ∃ m : Nat, y = m := ⟨y.toNat, by omega⟩
  have e : ((n : Int) * 16) = ((n * 16 : Nat) : Int) := by omega
  rw [e, i64_or_nat _ _ (by omega) (by omega)]
  have := Nat.shiftLeft_add_eq_or_of_lt (b := m) (i := 4) (by omega) n
  rw [Nat.shiftLeft_eq] at this
  have h2 : n * 16 ||| m = n * 16 + m := by simpa using this.symm
  rw [h2]; omega
/-- all numbers of a list are bytes -/
def Byt (l : List Int) : Prop := ∀ x ∈ l, 0 ≤ x ∧ x ≤ 255
theorem Byt.at {l : List Int} (h : Byt l) (i : Nat) : 0 ≤ l.getD i 0 ∧ l.getD i 0 ≤ 255 := by
  by_cases hi : i < l.length
  · have : l.getD i 0 = l[i] := by simp [List.getD, List.getElem?_eq_getElem hi]
    rw [this]; exact h _ (List.getElem_mem hi)
  · simp [List.getD, List.getElem?_eq_none (by omega : l.length ≤ i)]
/-- the bytes from here on are 0 -/
def zerB (l : List Int) (r : Nat) : Bool := (l.drop r).all (· == 0)
theorem zerB_t {l : List Int} {r : Nat} (h : ∀ i, r ≤ i → i < l.length → l.getD i 0 = 0) : zerB l r = true := by
  unfold zerB
  rw [List.all_eq_true]
  intro x hx
  obtain ⟨i, hi, rfl⟩ := List.mem_iff_getElem.1 hx
  simp only [List.length_drop] at hi
  have := h (r + i) (by omega) (by omega)
  simp only [List.getD, List.getElem?_eq_getElem (show r + i < l.length by omega), Option.getD_some] at this
  simp [this]
theorem zerB_f {l : List Int} {r i : Nat} (hr : r ≤ i) (hi : i < l.length) (h : l.getD i 0 ≠ 0) : zerB l r = false := by
  unfold zerB
  rw [List.all_eq_false]
  refine ⟨l.getD i 0, ?_, by simpa using h⟩
  rw [List.mem_iff_getElem]
  refine ⟨i - r, by simp; omega, ?_⟩
  simp [List.getD, List.getElem?_eq_getElem hi, show r + (i - r) = i by omega]
/-- the kind of a frame; -1 for bytes that are none -/
def kindM (l : List Int) : Int :=
  if l.length = 8 then
    if l.getD 0 0 / 16 = 0 then (if 1 ≤ l.getD 0 0 % 16 ∧ l.getD 0 0 % 16 ≤ 7 ∧ zerB l ((l.getD 0 0 % 16).toNat + 1) = true then 0 else -1)
    else if l.getD 0 0 / 16 = 1 then (if 8 ≤ l.getD 0 0 % 16 * 256 + l.getD 1 0 ∧ l.getD 0 0 % 16 * 256 + l.getD 1 0 ≤ 1023 then 1 else -1)
    else if l.getD 0 0 / 16 = 2 then 2
    else if l.getD 0 0 / 16 = 3 then (if l.getD 0 0 % 16 ≤ 2 ∧ l.getD 2 0 ≤ 127 ∧ zerB l 3 = true then 3 else -1)
    else -1
  else -1
def KPost (k : Int) (w : World) (r : Ending) (w' : World) : Prop :=
  r = .returned (.tuple #[.int .i64 (if k < 0 then 0 else k), .bool (decide (0 ≤ k))]) ∧ Below w.heap.size w w'
theorem kpost {k : Int} {w w' : World} {r : Ending} (v : Int) (o : Bool) (h : r = .returned (.tuple #[.int .i64 v, .bool o])) (hk : (k < 0 ∧ v = 0 ∧ o = false) ∨ (0 ≤ k ∧ v = k ∧ o = true)) (hb : Below w.heap.size w w') : KPost k w r w' := by
  refine ⟨?_, hb⟩
  rw [h]
  rcases hk with ⟨h1, rfl, rfl⟩ | ⟨h1, rfl, rfl⟩
  · rw [if_pos h1, decide_eq_false (by omega)]
  · rw [if_neg (by omega), decide_eq_true h1]
theorem kind35_len (A : Option Addr) (n c : Nat) (l : List Int) (w : World) (hl : l.length = n) (h8 : n ≠ 8) :
    Calls Try.prog 35 #[.slice A n c] w (KPost (kindM l) w) := by
  have hk : kindM l = -1 := by unfold kindM; rw [if_neg (by omega)]
  rw [hk]
  have hb : ((n : Int) != 8) = true := by simp; omega
  go_enter Try.func35, Try.ntmps35
  go_wp2
  go_ret2
  exact kpost 0 false rfl (.inl ⟨by decide, rfl, rfl⟩) (Below.refl _ _)
set_option maxRecDepth 100000 in
set_option maxHeartbeats 4000000 in
theorem kind35_8 (b o c : Nat) (l : List Int) (w : World) (hl : l.length = 8) (hb : Bt w (some ⟨b, o, none⟩) l) (hB : Byt l) (hc : 8 ≤ c) :
    Calls Try.prog 35 #[.slice (some ⟨b, o, none⟩) 8 c] w (KPost (kindM l) w) := by
  have c0 : w.cell? ⟨b, o, none⟩ = some (.int .u8 (l.getD 0 0)) := (hb.at 0 (by omega)).1
  have c1 := (hb.at 1 (by omega)).1
  have c2 := (hb.at 2 (by omega)).1
  obtain ⟨l0, l1⟩ := hB.at 0
  obtain ⟨m0, m1⟩ := hB.at 1
  obtain ⟨n0, n1⟩ := hB.at 2
  have HB := Lib.hid hb
  have HY := Lib.hid hB
  have HL := Lib.hid hl
  obtain ⟨k, hk⟩ : ∃ k, k = kindM l := ⟨_, rfl⟩
  rw [← hk]
  have HK := Lib.hid hk
  obtain ⟨f0, hf0⟩ : ∃ x, x = l.getD 0 0 := ⟨_, rfl⟩
  obtain ⟨f1, hf1⟩ : ∃ x, x = l.getD 1 0 := ⟨_, rfl⟩
  obtain ⟨f2, hf2⟩ : ∃ x, x = l.getD 2 0 := ⟨_, rfl⟩
  rw [← hf0] at c0 l0 l1
  rw [← hf1] at c1 m0 m1
  rw [← hf2] at c2 n0 n1
  have HF := Lib.hid (And.intro hf0 (And.intro hf1 hf2))
  obtain ⟨L, hL⟩ : ∃ L : Nat, f0 % 16 = L := ⟨(f0 % 16).toNat, by omega⟩
  have hL16 : L < 16 := by omega
  have HKL : Hid (k = (if f0 / 16 = 0 then (if 1 ≤ (L : Int) ∧ (L : Int) ≤ 7 ∧ zerB l (L + 1) = true then 0 else -1) else if f0 / 16 = 1 then (if 8 ≤ (L : Int) * 256 + f1 ∧ (L : Int) * 256 + f1 ≤ 1023 then 1 else -1) else if f0 / 16 = 2 then 2 else if f0 / 16 = 3 then (if (L : Int) ≤ 2 ∧ f2 ≤ 127 ∧ zerB l 3 = true then 3 else -1) else -1)) := by
    show k = _
    rw [hk]
    unfold kindM
    rw [if_pos hl, ← hf0, ← hf1, ← hf2, hL]
    simp only [Int.toNat_natCast]
  have hor : bits .or .i64 ((L : Int) * 256) f1 = (L : Int) * 256 + f1 := i64_or256 (by omega) (by omega) m0 m1
  obtain ⟨N, hN⟩ : ∃ N, (L : Int) * 256 + f1 = N := ⟨_, rfl⟩
  rw [hN] at hor HKL
  have N0 : 0 ≤ N ∧ N ≤ 4095 := by omega
  have w1 : IntKind.i64.wrap ((L : Int) * 256) = (L : Int) * 256 := IntWalk.i64_in _ (by omega)
  clear hb hB hl hk hf0 hf1 hf2 hN HK
  obtain ⟨N0, N1⟩ := N0
  rcases (by omega : f0 / 16 = 0 ∨ f0 / 16 = 1 ∨ f0 / 16 = 2 ∨ f0 / 16 = 3 ∨ 3 < f0 / 16) with hq | hq | hq | hq | hq
  · rw [hq] at HKL
    rcases (by omega : L < 1 ∨ 7 < L ∨ L = 7 ∨ (1 ≤ L ∧ L ≤ 6)) with g | g | rfl | ⟨g1, g2⟩
    · have g3 : (L : Int) < 1 := by omega
      go_enter Try.func35, Try.ntmps35
      go_wp2_with fail
      go_quiet (fail)
      go_wp2
      all_goals
        first
        | (exfalso; omega)
        | (go_ret2; exact kpost 0 false rfl (.inl ⟨by rw [HKL.out]; simp; omega, rfl, rfl⟩) (below_drewN _ _))
    · have g3 : ¬ (L : Int) < 1 := by omega
      have g4 : decide ((7 : Int) < (L : Int)) = true := by simp; omega
      go_enter Try.func35, Try.ntmps35
      go_wp2_with fail
      go_quiet (fail)
      go_wp2
      all_goals
        first
        | (exfalso; omega)
        | (go_ret2; exact kpost 0 false rfl (.inl ⟨by rw [HKL.out]; simp; omega, rfl, rfl⟩) (below_drewN _ _))
    · have hz : zerB l 8 = true := zerB_t (fun i h1 h2 => by rw [HL.out] at h2; omega)
      have HZ := Lib.hid hz
      clear hz
      by_cases h8 : c = 8
      · subst h8
        go_enter Try.func35, Try.ntmps35
        go_wp2_with fail
        go_quiet (fail)
        go_wp2
        all_goals
          first
          | (exfalso; omega)
          | (go_rounds 1; go_ret2; exact kpost 0 true rfl (.inr ⟨by rw [HKL.out]; simp [HZ.out], by rw [HKL.out]; simp [HZ.out], rfl⟩) (below_drewN _ _))
      · have h8' : ¬ 8 = c := by omega
        go_enter Try.func35, Try.ntmps35
        go_wp2_with fail
        go_quiet (fail)
        go_wp2
        all_goals
          first
          | (exfalso; omega)
          | (go_rounds 1; go_ret2; exact kpost 0 true rfl (.inr ⟨by rw [HKL.out]; simp [HZ.out], by rw [HKL.out]; simp [HZ.out], rfl⟩) (below_drewN _ _))
    · have g3 : (1 : Int) ≤ (L : Int) := by omega
      have g4 : decide ((7 : Int) < (L : Int)) = false := by simp; omega
      have g5 : ¬ L + 1 = c := by omega
      have g6 : ¬ c = L + 1 := by omega
      obtain ⟨M, hM⟩ : ∃ M, 7 - L = M := ⟨_, rfl⟩
      go_enter Try.func35, Try.ntmps35
      go_wp2_with fail
      go_quiet (fail)
      go_wp2_with fail
      all_goals first | (exfalso; omega) | skip
      go_loopg [65] M (fun gk i wr => ∃ j : Nat, j ≤ M ∧ M - j ≤ gk ∧ i = .int .i64 j ∧ Hid (∀ t, L + 1 ≤ t → t < L + 1 + j → l.getD t 0 = 0) ∧ Below w.heap.size w wr)
      case atStart => exact ⟨0, by omega, by omega, rfl, Lib.hid (fun t h1 h2 => by omega), below_drewN _ _⟩
      case round =>
        obtain ⟨j, hj, hgk, rfl, HZ, hg⟩ := hrel
        by_cases hlt : j < M
        · obtain ⟨hcell, hbl⟩ := HB.out.at (L + 1 + j) (by rw [HL.out]; omega)
          have d0 : wr.cell? ⟨b, o + (L + 1) + j, none⟩ = some (.int .u8 (l.getD (L + 1 + j) 0)) := by rw [Nat.add_assoc]; exact ((bcell hg).1 _ _ hbl).trans hcell
          obtain ⟨x0, x1⟩ := HY.out.at (L + 1 + j)
          obtain ⟨x, hx⟩ : ∃ x, x = l.getD (L + 1 + j) 0 := ⟨_, rfl⟩
          rw [← hx] at d0 x0 x1
          have j0 : (0 : Int) ≤ (j : Int) := by omega
          by_cases hx0 : x = 0
          · have HX := Lib.hid hx
            clear hx hcell
            subst hx0
            go_wp2
            go_roundg (M - (j + 1))
            case measure => omega
            case rel =>
              refine ⟨j + 1, by omega, by omega, by go_num, Lib.hid (fun t h1 h2 => ?_), hg⟩
              by_cases e : t = L + 1 + j
              · subst e; exact HX.out.symm
              · exact HZ.out t h1 (by omega)
          · have hx1 : (x != 0) = true := by simp [hx0]
            have HX : Hid (zerB l (L + 1) = false) := Lib.hid (zerB_f (i := L + 1 + j) (by omega) (by rw [HL.out]; omega) (by rw [← hx]; exact hx0))
            clear hx hcell
            go_wp2
            go_ret2
            exact kpost 0 false rfl (.inl ⟨by rw [HKL.out, HX.out]; simp, rfl, rfl⟩) hg
        · obtain rfl : j = M := by omega
          have HX : Hid (zerB l (L + 1) = true) := Lib.hid (zerB_t (fun t h1 h2 => HZ.out t h1 (by rw [HL.out] at h2; omega)))
          go_wp2
          go_ret2
          exact kpost 0 true rfl (.inr ⟨by rw [HKL.out, HX.out]; simp; omega, by rw [HKL.out, HX.out]; simp; omega, rfl⟩) hg
  · rw [hq] at HKL
    rcases (by omega : N < 8 ∨ 1023 < N ∨ (8 ≤ N ∧ N ≤ 1023)) with g | g | ⟨g1, g2⟩
    · go_enter Try.func35, Try.ntmps35
      go_wp2_with fail
      go_quiet (fail)
      go_wp2
      all_goals
        first
        | (exfalso; omega)
        | (go_ret2; exact kpost 0 false rfl (.inl ⟨by rw [HKL.out]; simp; omega, rfl, rfl⟩) (below_drewN _ _))
      
    · have g4 : decide ((1023 : Int) < N) = true := by simp; omega
      go_enter Try.func35, Try.ntmps35
      go_wp2_with fail
      go_quiet (fail)
      go_wp2
      all_goals
        first
        | (exfalso; omega)
        | (go_ret2; exact kpost 0 false rfl (.inl ⟨by rw [HKL.out]; simp; omega, rfl, rfl⟩) (below_drewN _ _))
    · have g4 : decide ((1023 : Int) < N) = false := by simp; omega
      by_cases h8 : c = 8
      · subst h8
        go_enter Try.func35, Try.ntmps35
        go_wp2_with fail
        go_quiet (fail)
        go_wp2
        all_goals
          first
          | (exfalso; omega)
          | (go_rounds 1; go_ret2; exact kpost 1 true rfl (.inr ⟨by rw [HKL.out]; simp; omega, by rw [HKL.out]; simp; omega, rfl⟩) (below_drewN _ _))
      · have h8' : ¬ 8 = c := by omega
        go_enter Try.func35, Try.ntmps35
        go_wp2_with fail
        go_quiet (fail)
        go_wp2
        all_goals
          first
          | (exfalso; omega)
          | (go_rounds 1; go_ret2; exact kpost 1 true rfl (.inr ⟨by rw [HKL.out]; simp; omega, by rw [HKL.out]; simp; omega, rfl⟩) (below_drewN _ _))
  · rw [hq] at HKL
    by_cases h8 : c = 8
    · subst h8
      go_enter Try.func35, Try.ntmps35
      go_wp2_with fail
      go_quiet (fail)
      go_wp2
      all_goals
        first
        | (exfalso; omega)
        | (go_rounds 1; go_ret2; exact kpost 2 true rfl (.inr ⟨by rw [HKL.out]; simp, by rw [HKL.out]; simp, rfl⟩) (below_drewN _ _))
    · have h8' : ¬ 8 = c := by omega
      go_enter Try.func35, Try.ntmps35
      go_wp2_with fail
      go_quiet (fail)
      go_wp2
      all_goals
        first
        | (exfalso; omega)
        | (go_rounds 1; go_ret2; exact kpost 2 true rfl (.inr ⟨by rw [HKL.out]; simp, by rw [HKL.out]; simp, rfl⟩) (below_drewN _ _))
  · rw [hq] at HKL
    rcases (by omega : 2 < L ∨ (L ≤ 2 ∧ 127 < f2) ∨ (L ≤ 2 ∧ f2 ≤ 127)) with g | ⟨g1, g2⟩ | ⟨g1, g2⟩
    · have g3 : (2 : Int) < (L : Int) := by omega
      go_enter Try.func35, Try.ntmps35
      go_wp2_with fail
      go_quiet (fail)
      go_wp2
      all_goals
        first
        | (exfalso; omega)
        | (go_ret2; exact kpost 0 false rfl (.inl ⟨by rw [HKL.out]; simp; omega, rfl, rfl⟩) (below_drewN _ _))
    · have g3 : ¬ (2 : Int) < (L : Int) := by omega
      have g4 : decide ((127 : Int) < f2) = true := by simp; omega
      go_enter Try.func35, Try.ntmps35
      go_wp2_with fail
      go_quiet (fail)
      go_wp2
      all_goals
        first
        | (exfalso; omega)
        | (go_ret2; exact kpost 0 false rfl (.inl ⟨by rw [HKL.out]; simp; omega, rfl, rfl⟩) (below_drewN _ _))
    · have g3 : ¬ (2 : Int) < (L : Int) := by omega
      have g4 : decide ((127 : Int) < f2) = false := by simp; omega
      have g5 : ¬ 3 = c := by omega
      go_enter Try.func35, Try.ntmps35
      go_wp2_with fail
      go_quiet (fail)
      go_wp2_with fail
      all_goals first | (exfalso; omega) | skip
      go_loopg [65] 5 (fun gk i wr => ∃ j : Nat, j ≤ 5 ∧ 5 - j ≤ gk ∧ i = .int .i64 j ∧ Hid (∀ t, 3 ≤ t → t < 3 + j → l.getD t 0 = 0) ∧ Below w.heap.size w wr)
      case atStart => exact ⟨0, by omega, by omega, rfl, Lib.hid (fun t h1 h2 => by omega), below_drewN _ _⟩
      case round =>
        obtain ⟨j, hj, hgk, rfl, HZ, hg⟩ := hrel
        by_cases hlt : j < 5
        · obtain ⟨hcell, hbl⟩ := HB.out.at (3 + j) (by rw [HL.out]; omega)
          have d0 : wr.cell? ⟨b, o + (3) + j, none⟩ = some (.int .u8 (l.getD (3 + j) 0)) := by rw [Nat.add_assoc]; exact ((bcell hg).1 _ _ hbl).trans hcell
          obtain ⟨x0, x1⟩ := HY.out.at (3 + j)
          obtain ⟨x, hx⟩ : ∃ x, x = l.getD (3 + j) 0 := ⟨_, rfl⟩
          rw [← hx] at d0 x0 x1
          have j0 : (0 : Int) ≤ (j : Int) := by omega
          by_cases hx0 : x = 0
          · have HX := Lib.hid hx
            clear hx hcell
            subst hx0
            go_wp2
            go_roundg (5 - (j + 1))
            case measure => omega
            case rel =>
              refine ⟨j + 1, by omega, by omega, by go_num, Lib.hid (fun t h1 h2 => ?_), hg⟩
              by_cases e : t = 3 + j
              · subst e; exact HX.out.symm
              · exact HZ.out t h1 (by omega)
          · have hx1 : (x != 0) = true := by simp [hx0]
            have HX : Hid (zerB l (3) = false) := Lib.hid (zerB_f (i := 3 + j) (by omega) (by rw [HL.out]; omega) (by rw [← hx]; exact hx0))
            clear hx hcell
            go_wp2
            go_ret2
            exact kpost 0 false rfl (.inl ⟨by rw [HKL.out, HX.out]; simp, rfl, rfl⟩) hg
        · obtain rfl : j = 5 := by omega
          have HX : Hid (zerB l (3) = true) := Lib.hid (zerB_t (fun t h1 h2 => HZ.out t h1 (by rw [HL.out] at h2; omega)))
          go_wp2
          go_ret2
          exact kpost 3 true rfl (.inr ⟨by rw [HKL.out, HX.out]; simp; omega, by rw [HKL.out, HX.out]; simp; omega, rfl⟩) hg
  · have g1 : ¬ f0 / 16 = 0 := by omega
    have g2 : ¬ f0 / 16 = 1 := by omega
    have g3 : ¬ f0 / 16 = 2 := by omega
    have g4 : ¬ f0 / 16 = 3 := by omega
    obtain ⟨Q, hQ⟩ : ∃ Q, f0 / 16 = Q := ⟨_, rfl⟩
    rw [hQ] at HKL hq g1 g2 g3 g4
    have k1 : (Q == 0) = false := by simp [g1]
    have k2 : (Q == 1) = false := by simp [g2]
    have k3 : (Q == 2) = false := by simp [g3]
    have k4 : (Q == 3) = false := by simp [g4]
    go_enter Try.func35, Try.ntmps35
    go_wp2_with fail
    go_quiet (fail)
    go_wp2
    all_goals
      first
      | (exfalso; omega)
      | (go_ret2; exact kpost 0 false rfl (.inl ⟨by rw [HKL.out]; simp [g1, g2, g3, g4], rfl, rfl⟩) (below_drewN _ _))
theorem kind35 (A : Option Addr) (n c : Nat) (l : List Int) (w : World) (hl : l.length = n) (hb : Bt w A l) (hB : Byt l) (hc : n ≤ c) :
    Calls Try.prog 35 #[.slice A n c] w (KPost (kindM l) w) := by
  by_cases h8 : n = 8
  · subst h8
    obtain ⟨b, o, rfl, _⟩ := hb.addr (by omega)
    exact kind35_8 b o c l w hl hb hB hc
  · exact kind35_len A n c l w hl h8
end Go.Proofs.Ytfjeediecmhedaa
