/-
  Laws for blocks behind an append. No condition.
-/
import Derived.Test.YtamajedopofcoaaPO
set_option linter.unusedVariables false
set_option linter.unusedSimpArgs false
namespace Go.Proofs.Ytamajedopofcoaa
open Go.RowKit
theorem vP_t {R W : List Int} {Ac Pe : Int} {ch : List (Int × Int)} (h : vP R W Ac Pe ch = true) : 1 ≤ R.length ∧ R.length ≤ 1000 ∧ W.length = R.length ∧ (Ac = 0 ∨ Ac = 1) ∧ -1 ≤ Pe ∧ Pe ≤ 1 ∧ ch.length ≤ 100 ∧ allC R.length ch = true ∧ allP R = true ∧ allP W = true := by
  unfold vP listB at h
  simp only [Bool.and_eq_true, Bool.or_eq_true, decide_eq_true_eq] at h
  obtain ⟨⟨⟨⟨⟨⟨⟨⟨⟨h1, h2⟩, h3⟩, ⟨⟨h4, h5⟩, h6⟩⟩, h7⟩, h8⟩, h9⟩, h10⟩, h11⟩, h12⟩ := h
  exact ⟨h1, h2, h7, h8, h9, h10, h11, h12, h3, h6⟩
theorem Ik.of_block {k : IntKind} {w : World} {g : Nat} {l : List Int} {t : TypeId} {f : Nat × Nat} (h : w.heap[g]? = some (.cells (l.map (Value.int k)).toArray t f)) : Ik k w (some ⟨g, 0, none⟩) l := fun _ => by
  refine ⟨g, 0, rfl, (Array.getElem?_eq_some_iff.1 h).1, fun i x hx => ?_⟩
  simp [World.cell?, h, List.getElem?_map, hx]
theorem new_at {W : World} {n : Nat} (hn : n = W.heap.size) (o : Obj) : (W.alloc o).heap[n]? = some o := by subst hn; exact heap_alloc_new _ _
theorem Cl.heap {P : Nat} {w w' : World} {vs : List Value} (h : Cl P w vs) (he : w'.heap[P]? = w.heap[P]?) : Cl P w' vs := by
  have hlt : P < w'.heap.size := by
    have h1 : w.heap[P]? = some (w.heap[P]'h.1) := Array.getElem?_eq_getElem h.1
    rw [h1] at he
    exact (Array.getElem?_eq_some_iff.1 he).1
  refine ⟨hlt, fun j v e => ?_⟩
  obtain ⟨h1, h2⟩ := h.2 j v e
  exact ⟨by rw [← h1]; exact World.cell?_of_block (w := w) (a := ⟨P, j, none⟩) he, by rw [← h2]; exact World.frozen?_of_block (w := w) (a := ⟨P, j, none⟩) he⟩
theorem app_one {ops : Array Oper} {rest : List Oper} {o : Oper} {a : Act} {Q : Exit → Act → World → Prop} {w : World} (hgd : o.guard = none) (s x : Operand)
    (ho : o.op = .call { callee := .builtin .append, args := #[s, x], argTypes := #[23, 23] }) (base n : Nat) (v : Value) (xs : List Value) (hs : a.eval s = v) (hown : w.ownsRow base 56 2 v n xs)
    (g0 : Nat) (p q : Int) (hx : a.eval x = .slice (some ⟨g0, 0, none⟩) 1 1) (hb : Ik .i64 w (some ⟨g0, 0, none⟩) (flat [(p, q)])) (hsm : n + 1 ≤ 1000000) (hbase : base ≤ w.heap.size)
    (h : ∀ g cap w', w'.ownsRow base 56 2 (.slice (some ⟨g, 0, none⟩) (n + 1) cap) (n + 1) (xs ++ (flat [(p, q)]).map (Value.int .i64)) → Below base w w' → (∀ b, b < w.heap.size → some b ≠ v.ownBlock → w'.heap[b]? = w.heap[b]?) → (v.ownBlock = some g ∨ g = w.heap.size) → wpList Try.prog ops Q rest (a.put o.dst (.slice (some ⟨g, 0, none⟩) (n + 1) cap)) w') : wpList Try.prog ops Q (o :: rest) a w := by
  obtain ⟨i0, hi, hz0, hz1, hz2⟩ := info_parts info56
  refine wpList_append_lies w hgd s x 23 ho base 56 i0 (.agg #[.int .i64 0, .int .i64 0]) 2 16 Try.underlying23 hi hz0 hz1 hz2 rfl (by decide) v n xs hs hown ⟨g0, 0, none⟩ 1 1 ((flat [(p, q)]).map (Value.int .i64)) hx rfl hb.news (one_int _ _) (by decide) (by unfold maxLen; omega) (by omega) hbase w.heap.size rfl ?_
  intro g cap w' h1 h2 h3 h4
  exact h g cap w' h1 (grown_below hown h2 hbase) (fun b hlt hne => h2.block b hlt hne) h3
theorem Ik.belowB {k : IntKind} {w w' : World} {A : Option Addr} {l : List Int} {B : Nat} (h : Ik k w A l) (hB : ∀ b o, A = some ⟨b, o, none⟩ → b < B) (hb : Below B w w') : Ik k w' A l := fun h0 => by
  obtain ⟨b, o, rfl, hbl, hc⟩ := h h0
  exact ⟨b, o, rfl, Nat.lt_of_lt_of_le hbl hb.size, fun i x hx => ((below_cell hb).1 _ _ (hB b o rfl)).trans (hc i x hx)⟩
end Go.Proofs.Ytamajedopofcoaa
