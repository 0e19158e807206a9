/-
  Rows of cells, slices.Clone and copied. No condition but the slice's shape.
-/
import Derived.Test.YtemfjikiopcgpaaValid
set_option linter.unusedVariables false
set_option linter.unusedSimpArgs false
namespace Go.Proofs.Ytemfjikiopcgpaa
open Go.RowKit
def crow (f g : Nat → Int) (k : Nat) : List Value := (List.range k).flatMap fun i => [.int .i64 (f i), .int .i64 (g i)]
theorem crow_succ (f g : Nat → Int) (k : Nat) : crow f g (k + 1) = crow f g k ++ [.int .i64 (f k), .int .i64 (g k)] := by
  unfold crow; rw [List.range_succ, List.flatMap_append]; simp
theorem crow_len (f g : Nat → Int) : ∀ n, (crow f g n).length = n * 2
  | 0 => rfl
  | n + 1 => by rw [crow_succ, List.length_append, crow_len f g n]; simp; omega
theorem crow_get (f g : Nat → Int) : ∀ n i, i < n → (crow f g n)[i * 2]? = some (.int .i64 (f i)) ∧ (crow f g n)[i * 2 + 1]? = some (.int .i64 (g i))
  | 0, i, h => absurd h (Nat.not_lt_zero i)
  | n + 1, i, h => by
    rw [crow_succ]
    by_cases e : i = n
    · subst e
      have hl := crow_len f g i
      refine ⟨?_, ?_⟩ <;> (rw [List.getElem?_append_right (by omega), hl])
      · simp
      · rw [show i * 2 + 1 - i * 2 = 1 by omega]; rfl
    · have hl := crow_len f g n
      obtain ⟨h0, h1⟩ := crow_get f g n i (by omega)
      refine ⟨?_, ?_⟩ <;> rw [List.getElem?_append_left (by omega)] <;> assumption
theorem crow_one (f g : Nat → Int) (n : Nat) : ∀ u ∈ crow f g n, u.oneCell' = true := by
  intro u hu
  simp only [crow, List.mem_flatMap, List.mem_range, List.mem_cons, List.not_mem_nil, or_false] at hu
  obtain ⟨i, _, h | h⟩ := hu <;> subst h <;> rfl
/-- the cells of a slice as a list -/
theorem cls_news {w : World} {b off n : Nat} {f g : Nat → Int} (h : ∀ i, i < n → w.cell? ⟨b, off + i * 2, none⟩ = some (.int .i64 (f i)) ∧ w.cell? ⟨b, off + i * 2 + 1, none⟩ = some (.int .i64 (g i))) :
    ∀ j u, (crow f g n)[j]? = some u → w.cell? ((⟨b, off, none⟩ : Addr).add j) = some u := by
  intro j u hj
  rw [WideShapes.add_plain]
  have hlt : j < (crow f g n).length := (List.getElem?_eq_some_iff.1 hj).1
  rw [crow_len] at hlt
  obtain ⟨i, hi⟩ : ∃ i, j = i * 2 ∨ j = i * 2 + 1 := ⟨j / 2, by omega⟩
  rcases hi with rfl | rfl
  · obtain ⟨h0, _⟩ := crow_get f g n i (by omega)
    rw [h0] at hj
    rw [← hj]; exact (h i (by omega)).1
  · obtain ⟨_, h0⟩ := crow_get f g n i (by omega)
    rw [h0] at hj
    rw [← hj]; exact (h i (by omega)).2
theorem own_cls {w : World} {base len : Nat} {v : Value} {f g : Nat → Int} (h : w.ownsRow base 52 2 v len (crow f g len)) : ∃ A cap, v = .slice A len cap ∧ len ≤ cap ∧ cap ≤ maxLen ∧ Cls w A len f g := by
  obtain ⟨A, cap, hv, hA, hc, hm⟩ := own_slice h
  refine ⟨A, cap, hv, hc, hm, fun h0 => ?_⟩
  obtain ⟨b, rfl, _, hb, hcell⟩ := hA h0
  refine ⟨b, 0, rfl, hb, fun i hi => ?_⟩
  obtain ⟨e0, e1⟩ := crow_get f g len i hi
  simp only [Nat.zero_add]
  exact ⟨hcell _ _ e0, hcell _ _ e1⟩
theorem info52 : (Try.prog.info? 52).map (fun i => (i.zero, i.size, i.bytes)) = some (some (.agg #[.int .i64 0, .int .i64 0]), 2, 16) := by kernel_rfl
/-- a slice that a call has made: its block is one of the call's own -/
def Own (w : World) (base : Nat) (v : Value) (n : Nat) (f g : Nat → Int) : Prop := w.ownsRow base 52 2 v n (crow f g n)
set_option maxHeartbeats 1000000 in
theorem clone37 (A : Option Addr) (cap : Nat) (f g : Nat → Int) (w : World) (hs : Cls w A 9 f g) :
    Calls Try.prog 37 #[.slice A 9 cap] w fun r w' => ∃ v, r = .returned v ∧ Own w' w.heap.size v 9 f g ∧ Below w.heap.size w w' := by
  obtain ⟨i0, hi, hz0, hz1, hz2⟩ := info_parts info52
  obtain ⟨b, off, rfl, hb, hcell⟩ := hs (by omega)
  have q := fun (w : World) (a : Option Addr) (n c : Nat) => Lib.run_eql_slice_nil (P := Try.prog) w 22 52 a n c 0 0 Try.underlying22
  have HN := Lib.hid (cls_news hcell)
  clear hs hcell
  go_enter Try.func37, Try.ntmps37
  go_wp2_with (at_builtin; go_loud (refine wpList_append_own _ rfl _ _ 22 rfl w.heap.size 52 i0 (.agg #[.int .i64 0, .int .i64 0]) 2 16 Try.underlying22 hi hz0 hz1 hz2 rfl (by decide) _ 0 [] rfl (World.ownsRow_made _ #[] 0 (Nat.le_refl _) (by simp [maxLen]) rfl) ⟨b, off, none⟩ 9 cap (crow f g 9) rfl (by rw [crow_len]) ?c1 ?c2 ?c3 ?c4 ?c5 ?_))
  case c1 =>
    intro j u hj
    have h := HN.out j u hj
    rw [WideShapes.add_plain] at h ⊢
    exact (World.cell?_alloc_lt _ _ _ (by simpa using hb)).trans h
  case c2 => exact crow_one f g 9
  case c3 => simp [maxLen]
  case c4 => omega
  case c5 => simp
  · intro v' w3 hown' hgrow _
    have hb3 : Below w.heap.size w w3 := (show Below w.heap.size w _ from by go_grown).grown hgrow (by simp) (by intro k hk; simp [Value.ownBlock] at hk; omega)
    go_wp2
    go_ret
    exact ⟨v', rfl, by simpa [Own] using hown', hb3⟩
/-- what a state reads as, where its cells are the call's own -/
def PrPost (a r : Bool) (F W : Int) (f g : Nat → Int) (w : World) (e : Ending) (w' : World) : Prop :=
  ∃ v, e = .returned (.agg #[.bool a, .bool r, .int .i64 F, .int .i64 W, v]) ∧ Own w' w.heap.size v 9 f g ∧ Below w.heap.size w w'
theorem own_some {w : World} {B : Nat} {v : Value} {f g : Nat → Int} (h : Own w B v 9 f g) : ∃ b c, v = .slice (some ⟨b, 0, none⟩) 9 c ∧ B ≤ b ∧ b < w.heap.size ∧ 9 ≤ c ∧ c ≤ maxLen := by
  obtain ⟨b, c, hv, h1, h2, h3, h4, _⟩ := own_form h (by omega)
  exact ⟨b, c, hv, h1, h2, h3, h4⟩
set_option maxHeartbeats 1000000 in
theorem copied30 (a r : Bool) (F W : Int) (A : Option Addr) (cap : Nat) (f g : Nat → Int) (w : World) (hs : Cls w A 9 f g) :
    Calls Try.prog 30 #[.agg #[.bool a, .bool r, .int .i64 F, .int .i64 W, .slice A 9 cap]] w (PrPost a r F W f g w) := by
  have HS := Lib.hid hs
  clear hs
  go_enter Try.func30, Try.ntmps30
  go_wp2_with fail
  refine (clone37 A cap f g _ (HS.out.below (by go_grown))).mono ?_
  rintro e w1 ⟨v, rfl, hown, hb1⟩
  have hg1 := chain (w := w) (by go_grown) hb1
  obtain ⟨hc1, hf1⟩ := bcell hb1
  have sz1 := hb1.size
  simp at sz1
  have p0 : w1.cell? ⟨w.heap.size, 0, none⟩ = some (.bool a) := (hc1 _ _ (by first | omega | (simp; done) | (simp; omega))).trans (by go_cell)
  have e0 : w1.frozen? ⟨w.heap.size, 0, none⟩ = false := (hf1 _ _ (by first | omega | (simp; done) | (simp; omega))).trans (by simp [go_sem])
  have p1 : w1.cell? ⟨w.heap.size, 1, none⟩ = some (.bool r) := (hc1 _ _ (by first | omega | (simp; done) | (simp; omega))).trans (by go_cell)
  have e1 : w1.frozen? ⟨w.heap.size, 1, none⟩ = false := (hf1 _ _ (by first | omega | (simp; done) | (simp; omega))).trans (by simp [go_sem])
  have p2 : w1.cell? ⟨w.heap.size, 2, none⟩ = some (.int .i64 F) := (hc1 _ _ (by first | omega | (simp; done) | (simp; omega))).trans (by go_cell)
  have e2 : w1.frozen? ⟨w.heap.size, 2, none⟩ = false := (hf1 _ _ (by first | omega | (simp; done) | (simp; omega))).trans (by simp [go_sem])
  have p3 : w1.cell? ⟨w.heap.size, 3, none⟩ = some (.int .i64 W) := (hc1 _ _ (by first | omega | (simp; done) | (simp; omega))).trans (by go_cell)
  have e3 : w1.frozen? ⟨w.heap.size, 3, none⟩ = false := (hf1 _ _ (by first | omega | (simp; done) | (simp; omega))).trans (by simp [go_sem])
  have p4 : w1.cell? ⟨w.heap.size, 4, none⟩ = some (.slice A 9 cap) := (hc1 _ _ (by first | omega | (simp; done) | (simp; omega))).trans (by go_cell)
  have e4 : w1.frozen? ⟨w.heap.size, 4, none⟩ = false := (hf1 _ _ (by first | omega | (simp; done) | (simp; omega))).trans (by simp [go_sem])
  have q0 : w1.cell? ⟨w.heap.size + 1, 0, none⟩ = some (.bool false) := (hc1 _ _ (by first | omega | (simp; done) | (simp; omega))).trans (by go_cell)
  have f0 : w1.frozen? ⟨w.heap.size + 1, 0, none⟩ = false := (hf1 _ _ (by first | omega | (simp; done) | (simp; omega))).trans (by simp [go_sem])
  have q1 : w1.cell? ⟨w.heap.size + 1, 1, none⟩ = some (.bool false) := (hc1 _ _ (by first | omega | (simp; done) | (simp; omega))).trans (by go_cell)
  have f1 : w1.frozen? ⟨w.heap.size + 1, 1, none⟩ = false := (hf1 _ _ (by first | omega | (simp; done) | (simp; omega))).trans (by simp [go_sem])
  have q2 : w1.cell? ⟨w.heap.size + 1, 2, none⟩ = some (.int .i64 0) := (hc1 _ _ (by first | omega | (simp; done) | (simp; omega))).trans (by go_cell)
  have f2 : w1.frozen? ⟨w.heap.size + 1, 2, none⟩ = false := (hf1 _ _ (by first | omega | (simp; done) | (simp; omega))).trans (by simp [go_sem])
  have q3 : w1.cell? ⟨w.heap.size + 1, 3, none⟩ = some (.int .i64 0) := (hc1 _ _ (by first | omega | (simp; done) | (simp; omega))).trans (by go_cell)
  have f3 : w1.frozen? ⟨w.heap.size + 1, 3, none⟩ = false := (hf1 _ _ (by first | omega | (simp; done) | (simp; omega))).trans (by simp [go_sem])
  have q4 : w1.cell? ⟨w.heap.size + 1, 4, none⟩ = some (.slice none 0 0) := (hc1 _ _ (by first | omega | (simp; done) | (simp; omega))).trans (by go_cell)
  have f4 : w1.frozen? ⟨w.heap.size + 1, 4, none⟩ = false := (hf1 _ _ (by first | omega | (simp; done) | (simp; omega))).trans (by simp [go_sem])
  have hz : w.heap.size + 1 < w1.heap.size := by omega
  have hz0 : w.heap.size < w1.heap.size := by omega
  obtain ⟨b, c, rfl, hbb, hbl, h9, hm⟩ := own_some hown
  have hown : w1.ownsRow (w.heap.size + 1 + 1) 52 2 (.slice (some ⟨b, 0, none⟩) 9 c) 9 (crow f g 9) := by simpa [Own] using hown
  have HO := Lib.hid hown
  clear hc1 hf1 hb1 hown
  go_wp2_with fail
  refine bodyPost_ret (v := .agg #[.bool a, .bool r, .int .i64 F, .int .i64 W, .slice (some ⟨b, 0, none⟩) 9 c]) (by simp [results, Try.results30, go_sem, p0, p1, p2, p3, p4, q0, q1, q2, q3, q4, hz, hz0] <;> first | rfl | exact ⟨rfl, rfl⟩) rfl ⟨_, rfl, ?_, by go_grown⟩
  refine own_mono (base := w.heap.size + 1 + 1) ?_ (by omega)
  repeat refine ownsRow_setCell_below ?_ (by first | omega | (simp; done) | (simp; omega)) _
  exact HO.out
end Go.Proofs.Ytemfjikiopcgpaa
