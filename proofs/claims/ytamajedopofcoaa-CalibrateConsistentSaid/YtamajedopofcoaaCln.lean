/-
  The contracts of slices.Clone. No condition but the slices' shape.
-/
import Derived.Test.YtamajedopofcoaaVal
set_option linter.unusedVariables false
set_option linter.unusedSimpArgs false
namespace Go.Proofs.Ytamajedopofcoaa
open Go.RowKit
theorem info3 : (Try.prog.info? 3).map (fun i => (i.zero, i.size, i.bytes)) = some (some (.int .i64 0), 1, 8) := by kernel_rfl
theorem info56 : (Try.prog.info? 56).map (fun i => (i.zero, i.size, i.bytes)) = some (some (.agg #[.int .i64 0, .int .i64 0]), 2, 16) := by kernel_rfl
/-- a slice of these numbers that the call has made -/
def Own (w : World) (B : Nat) (v : Value) (l : List Int) : Prop := w.ownsRow B 3 1 v l.length (l.map (Value.int .i64))
/-- a slice of these changes that the call has made -/
def OwC (w : World) (B : Nat) (v : Value) (ch : List (Int × Int)) : Prop := w.ownsRow B 56 2 v ch.length ((flat ch).map (Value.int .i64))
theorem own_it {w : World} {B : Nat} {e : TypeId} {size n : Nat} {v : Value} {l : List Int} (h : w.ownsRow B e size v n (l.map (Value.int .i64))) : ∃ A c, v = .slice A n c ∧ n ≤ c ∧ c ≤ maxLen ∧ Ik .i64 w A l ∧ Fr B A ∧ (∀ b o, A = some ⟨b, o, none⟩ → b < w.heap.size) := by
  obtain ⟨A, c, hv, hA, hc, hm⟩ := own_slice h
  refine ⟨A, c, hv, hc, hm, fun h0 => ?_, fun b o e => ?_, fun b o e => ?_⟩
  · have h1 := h.1
    simp only [List.length_map] at h1
    obtain ⟨b, rfl, _, hb, hcell⟩ := hA (by
      rcases Nat.eq_zero_or_pos n with h2 | h2
      · rw [h2, Nat.zero_mul] at h1; omega
      · exact h2)
    refine ⟨b, 0, rfl, hb, fun i x hx => ?_⟩
    rw [Nat.zero_add]
    exact hcell i _ (by simp [hx])
  · subst e
    exact own_ge h b (by rw [hv]; rfl)
  · subst e
    exact own_lt h b (by rw [hv]; rfl)
set_option maxHeartbeats 1000000 in
theorem clone27 (A : Option Addr) (n c : Nat) (l : List Int) (w : World) (hl : l.length = n) (hb : Ik .i64 w A l) (hn : n ≤ 1000000) (hc : n ≤ c) :
    Calls Try.prog 27 #[.slice A n c] w fun r w' => ∃ v, r = .returned v ∧ Own w' w.heap.size v l ∧ Below w.heap.size w w' := by
  obtain ⟨i0, hi, hz0, hz1, hz2⟩ := info_parts info3
  have q := fun (w : World) (a : Option Addr) (n c : Nat) => Lib.run_eql_slice_nil (P := Try.prog) w 22 3 a n c 0 0 Try.underlying22
  have HL := Lib.hid hl
  have hll : l.length = n * 1 := by rw [Nat.mul_one]; exact hl
  have HLL := Lib.hid hll
  cases A with
  | none =>
    have h0 : l = [] := by
      rcases h : l with _ | ⟨x, t⟩
      · rfl
      · obtain ⟨b, o, e, _⟩ := hb (by rw [h]; simp); cases e
    have hn0 : n = 0 := by rw [h0] at hll; simp at hll; omega
    have HH := Lib.hid h0
    have HN0 := Lib.hid hn0
    clear hl hll h0 hb
    go_enter Try.func27, Try.ntmps27
    go_wp2
    go_ret
    refine ⟨_, rfl, ?_, Below.refl _ _⟩
    unfold Own
    rw [HL.out, HH.out, HN0.out]
    exact World.ownsRow_nil _ _ _ _
  | some a =>
    have HN : Hid (∀ j v, (l.map (Value.int .i64))[j]? = some v → w.cell? (a.add j) = some v) := Lib.hid (fun j v hj => by
      have h0 : 0 < l.length := by
        have := (List.getElem?_eq_some_iff.1 hj).1
        simp at this; omega
      obtain ⟨b, o, e, _, _⟩ := id hb h0
      injection e with e; subst e
      exact hb.news j v hj)
    have HB : Hid (0 < l.length → a.block < w.heap.size) := Lib.hid (fun h0 => by
      obtain ⟨b, o, e, h, _⟩ := hb h0
      injection e with e; subst e
      exact h)
    clear hb hl hll
    go_enter Try.func27, Try.ntmps27
    go_wp2_with (at_builtin; go_loud (refine wpList_append_own _ rfl _ _ 22 rfl w.heap.size 3 i0 (.int .i64 0) 1 8 Try.underlying22 hi hz0 hz1 hz2 rfl (by decide) _ 0 [] rfl (World.ownsRow_made _ #[] 0 (Nat.le_refl _) (by simp [maxLen]) rfl) a n c (l.map (Value.int .i64)) rfl (by simpa using HLL.out) ?c1 ?c2 ?c3 ?c4 ?c5 ?_))
    case c1 =>
      intro j x hj
      have h0 : 0 < l.length := by
        have := (List.getElem?_eq_some_iff.1 hj).1
        simp at this; omega
      exact (World.cell?_alloc_lt _ _ _ (by have := HB.out h0; unfold Addr.add; split <;> simpa using this)).trans (HN.out j _ (by simpa using hj))
    case c2 => exact one_int _ _
    case c3 => simp [maxLen]; omega
    case c4 => omega
    case c5 => simp
    · intro v' w3 hown' hgrow _
      have hb3 : Below w.heap.size w w3 := (show Below w.heap.size w _ from by go_grown).grown hgrow (by simp) (by intro k hk; simp [Value.ownBlock] at hk; omega)
      go_wp2
      go_ret
      exact ⟨v', rfl, by simpa [Own, HL.out] using hown', hb3⟩
set_option maxHeartbeats 1000000 in
theorem clone46 (A : Option Addr) (n c : Nat) (ch : List (Int × Int)) (w : World) (hl : ch.length = n) (hb : Ik .i64 w A (flat ch)) (hn : n ≤ 1000000) (hc : n ≤ c) :
    Calls Try.prog 46 #[.slice A n c] w fun r w' => ∃ v, r = .returned v ∧ OwC w' w.heap.size v ch ∧ Below w.heap.size w w' := by
  obtain ⟨i0, hi, hz0, hz1, hz2⟩ := info_parts info56
  have q := fun (w : World) (a : Option Addr) (n c : Nat) => Lib.run_eql_slice_nil (P := Try.prog) w 23 56 a n c 0 0 Try.underlying23
  have HL := Lib.hid hl
  have hll : (flat ch).length = n * 2 := by rw [flat_len, hl]; omega
  have HLL := Lib.hid hll
  cases A with
  | none =>
    have h0 : (flat ch) = [] := by
      rcases h : (flat ch) with _ | ⟨x, t⟩
      · rfl
      · obtain ⟨b, o, e, _⟩ := hb (by rw [h]; simp); cases e
    have hn0 : n = 0 := by rw [h0] at hll; simp at hll; omega
    have HH := Lib.hid h0
    have HN0 := Lib.hid hn0
    clear hl hll h0 hb
    go_enter Try.func46, Try.ntmps46
    go_wp2
    go_ret
    refine ⟨_, rfl, ?_, Below.refl _ _⟩
    unfold OwC
    rw [HL.out, HH.out, HN0.out]
    exact World.ownsRow_nil _ _ _ _
  | some a =>
    have HN : Hid (∀ j v, ((flat ch).map (Value.int .i64))[j]? = some v → w.cell? (a.add j) = some v) := Lib.hid (fun j v hj => by
      have h0 : 0 < (flat ch).length := by
        have := (List.getElem?_eq_some_iff.1 hj).1
        simp at this; omega
      obtain ⟨b, o, e, _, _⟩ := id hb h0
      injection e with e; subst e
      exact hb.news j v hj)
    have HB : Hid (0 < (flat ch).length → a.block < w.heap.size) := Lib.hid (fun h0 => by
      obtain ⟨b, o, e, h, _⟩ := hb h0
      injection e with e; subst e
      exact h)
    clear hb hl hll
    go_enter Try.func46, Try.ntmps46
    go_wp2_with (at_builtin; go_loud (refine wpList_append_own _ rfl _ _ 23 rfl w.heap.size 56 i0 (.agg #[.int .i64 0, .int .i64 0]) 2 16 Try.underlying23 hi hz0 hz1 hz2 rfl (by decide) _ 0 [] rfl (World.ownsRow_made _ #[] 0 (Nat.le_refl _) (by simp [maxLen]) rfl) a n c ((flat ch).map (Value.int .i64)) rfl (by simpa using HLL.out) ?c1 ?c2 ?c3 ?c4 ?c5 ?_))
    case c1 =>
      intro j x hj
      have h0 : 0 < (flat ch).length := by
        have := (List.getElem?_eq_some_iff.1 hj).1
        simp at this; omega
      exact (World.cell?_alloc_lt _ _ _ (by have := HB.out h0; unfold Addr.add; split <;> simpa using this)).trans (HN.out j _ (by simpa using hj))
    case c2 => exact one_int _ _
    case c3 => simp [maxLen]; omega
    case c4 => omega
    case c5 => simp
    · intro v' w3 hown' hgrow _
      have hb3 : Below w.heap.size w w3 := (show Below w.heap.size w _ from by go_grown).grown hgrow (by simp) (by intro k hk; simp [Value.ownBlock] at hk; omega)
      go_wp2
      go_ret
      exact ⟨v', rfl, by simpa [OwC, HL.out] using hown', hb3⟩
end Go.Proofs.Ytamajedopofcoaa
