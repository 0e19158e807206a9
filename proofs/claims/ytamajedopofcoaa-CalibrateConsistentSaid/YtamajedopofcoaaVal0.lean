/-
  Pages in plain terms; the contract of the search for a wrong change. No condition but the slice's shape.
-/
import Derived.Test.YtamajedopofcoaaBase
set_option linter.unusedVariables false
set_option linter.unusedSimpArgs false
namespace Go.Proofs.Ytamajedopofcoaa
open Go.RowKit
/-- a change that is right where there are n parameters -/
def chB (n : Nat) (p : Int × Int) : Bool := decide (0 ≤ p.1) && decide (p.1 < n) && parB p.2
def allC (n : Nat) (ch : List (Int × Int)) : Bool := ch.all (chB n)
theorem allC_t {n : Nat} {ch : List (Int × Int)} (h : ∀ (i : Nat) (p : Int × Int), ch[i]? = some p → chB n p = true) : allC n ch = true := by
  unfold allC
  rw [List.all_eq_true]
  intro x hx
  obtain ⟨i, hi, rfl⟩ := List.mem_iff_getElem.1 hx
  exact h i _ (List.getElem?_eq_getElem hi)
theorem allC_f {n : Nat} {ch : List (Int × Int)} {i : Nat} {p : Int × Int} (hi : ch[i]? = some p) (h : chB n p = false) : allC n ch = false := by
  unfold allC
  rw [List.all_eq_false]
  exact ⟨p, List.mem_of_getElem? hi, by rw [h]; decide⟩
set_option maxRecDepth 100000 in
theorem valid33 (a b : Int) (N n : Nat) (w : World) (hN : w.cell? ⟨N, 0, none⟩ = some (.int .i64 n)) (hl : N < w.heap.size) :
    Calls Try.prog 33 #[.agg #[.int .i64 a, .int .i64 b], .pointer (some ⟨N, 0, none⟩)] w fun r w' => r = .returned (.bool (!chB n (a, b))) ∧ Below w.heap.size w w' := by
  have M := fun w => param34 b w
  have hN1 : (w.alloc (.cells #[.int .i64 a, .int .i64 b] 56)).cell? ⟨N, 0, none⟩ = some (.int .i64 n) := (World.cell?_alloc_lt _ _ _ hl).trans hN
  have e : chB n (a, b) = (decide (0 ≤ a) && decide (a < n) && parB b) := rfl
  rw [e]
  generalize parB b = pb at M
  replace M := Lib.hid M
  clear e hN
  by_cases h1 : a < 0
  · have d1 : decide (a < 0) = true := by simp [h1]
    have d2 : decide (0 ≤ a) = false := by simp; omega
    rw [d2]
    clear d2 h1
    go_enter Try.func33, Try.ntmps33
    go_wp2
    go_ret
    exact ⟨rfl, by go_grown⟩
  · have d1 : decide (a < 0) = false := by simp; omega
    have d2 : decide (0 ≤ a) = true := by simp; omega
    rw [d2]
    clear d2 h1
    by_cases h2 : a < n
    · have d3 : decide ((n : Int) ≤ a) = false := by simp; omega
      have d4 : decide (a < (n : Int)) = true := by simp; omega
      rw [d4]
      clear h2 d4
      go_enter Try.func33, Try.ntmps33
      go_wp2_with fail
      refine (M.out _).mono ?_
      rintro r w1 ⟨rfl, rfl⟩
      go_wp2
      go_ret
      exact ⟨by simp, by go_grown⟩
    · have d3 : decide ((n : Int) ≤ a) = true := by simp; omega
      have d4 : decide (a < (n : Int)) = false := by simp; omega
      rw [d4]
      clear h2 d4
      go_enter Try.func33, Try.ntmps33
      go_wp2
      go_ret
      exact ⟨by simp, by go_grown⟩
set_option maxRecDepth 100000 in
set_option maxHeartbeats 4000000 in
theorem index45 (A : Option Addr) (m c N n : Nat) (ch : List (Int × Int)) (w : World) (hl : ch.length = m) (hb : Ik .i64 w A (flat ch)) (hm : m ≤ 1000000) (hc : m ≤ c) (hN : w.cell? ⟨N, 0, none⟩ = some (.int .i64 n)) (hNl : N < w.heap.size) :
    Calls Try.prog 45 #[.slice A m c, .func (.func 33) #[] #[.pointer (some ⟨N, 0, none⟩)]] w fun r w' => ∃ v : Int, r = .returned (.int .i64 v) ∧ decide (0 ≤ v) = !allC n ch ∧ Below w.heap.size w w' := by
  have HL := Lib.hid hl
  have HB := Lib.hid hb
  have HN := Lib.hid hN
  clear hl hb hN
  go_enter Try.func45, Try.ntmps45
  go_wp2_with fail
  go_loopg [8] m (fun gk v wr => ∃ i : Nat, i ≤ m ∧ m - i ≤ gk ∧ v = .int .i64 i ∧ Hid (∀ j p, j < i → ch[j]? = some p → chB n p = true) ∧ Below w.heap.size w wr)
  case atStart => exact ⟨0, by omega, by omega, rfl, Lib.hid (fun j p h => by omega), Below.refl _ _⟩
  case round =>
    obtain ⟨i, hi, hgk, rfl, HA, hg⟩ := hrel
    by_cases hlt : i < m
    · obtain ⟨b, o, rfl, hbl⟩ := HB.out.addr (by rw [flat_len, HL.out]; omega)
      have hip : i < ch.length := by rw [HL.out]; exact hlt
      obtain ⟨p, hp⟩ : ∃ p, ch[i]? = some p := ⟨_, List.getElem?_eq_getElem hip⟩
      obtain ⟨g1, g2⟩ := flat_get ch i p hp
      obtain ⟨x, y⟩ := p
      have hgz := hg.size
      obtain ⟨b', o', e', _, hcell⟩ := (HB.out.below hg) (by rw [flat_len]; omega)
      injection e' with e'; injection e' with e1 e2
      subst e1; subst e2
      have q1 := hcell _ _ g1
      have q2 := hcell _ _ g2
      rw [← Nat.add_assoc] at q2
      simp only at q1 q2
      have K := fun w h h2 => valid33 x y N n w h h2
      have hNr : wr.cell? ⟨N, 0, none⟩ = some (.int .i64 n) := ((bcell hg).1 _ _ hNl).trans HN.out
      have HNR := Lib.hid hNr
      have HP := Lib.hid hp
      have hNlr : N < wr.heap.size := by omega
      clear hcell g1 g2 hp hNr hip
      cases hq : chB n (x, y)
      · rw [hq] at K
        replace K := Lib.hid K
        have HQ := Lib.hid hq
        clear hq
        go_wp2_with fail
        refine (K.out _ HNR.out hNlr).mono ?_
        rintro r w1 ⟨rfl, hb1⟩
        have hg1 := chain hg hb1
        go_wp2
        go_ret
        exact ⟨i, rfl, by rw [allC_f HP.out HQ.out]; simp, hg1⟩
      · rw [hq] at K
        replace K := Lib.hid K
        have HQ := Lib.hid hq
        clear hq
        go_wp2_with fail
        refine (K.out _ HNR.out hNlr).mono ?_
        rintro r w1 ⟨rfl, hb1⟩
        have hg1 := chain hg hb1
        go_wp2_with fail
        go_roundg (m - (i + 1))
        case measure => omega
        case rel =>
          refine ⟨i + 1, by omega, by omega, by go_num, Lib.hid (fun j p h hj => ?_), hg1⟩
          by_cases hji : j = i
          · subst hji
            rw [HP.out] at hj
            obtain rfl := Option.some.inj hj
            exact HQ.out
          · exact HA.out j p (by omega) hj
    · obtain rfl : i = m := by omega
      go_wp2
      go_ret
      exact ⟨-1, rfl, by rw [allC_t (fun j p hj => HA.out j p (by have := (List.getElem?_eq_some_iff.1 hj).1; rw [HL.out] at this; exact this) hj)]; rfl, hg⟩
theorem cont32 (A : Option Addr) (m c N n : Nat) (ch : List (Int × Int)) (w : World) (hl : ch.length = m) (hb : Ik .i64 w A (flat ch)) (hm : m ≤ 1000000) (hc : m ≤ c) (hN : w.cell? ⟨N, 0, none⟩ = some (.int .i64 n)) (hNl : N < w.heap.size) :
    Calls Try.prog 32 #[.slice A m c, .func (.func 33) #[] #[.pointer (some ⟨N, 0, none⟩)]] w fun r w' => r = .returned (.bool (!allC n ch)) ∧ Below w.heap.size w w' := by
  have K := Lib.hid (index45 A m c N n ch w hl hb hm hc hN hNl)
  clear hl hb hN
  go_enter Try.func32, Try.ntmps32
  go_wp2_with fail
  refine K.out.mono ?_
  rintro r w1 ⟨v, rfl, hv, hb1⟩
  have HV := Lib.hid hv
  clear hv
  go_wp2
  go_ret
  exact ⟨ret_bool HV.out, hb1⟩
end Go.Proofs.Ytamajedopofcoaa
