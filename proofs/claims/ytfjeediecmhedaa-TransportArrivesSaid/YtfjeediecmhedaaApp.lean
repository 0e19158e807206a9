/-
  append of a slice of bytes that may be nil, to a slice of the call's own. No condition but the slices' shape.
-/
import Derived.Test.YtfjeediecmhedaaAwake
import Derived.Laws.AppendOwnNone
set_option linter.unusedVariables false
set_option linter.unusedSimpArgs false
namespace Go.Proofs.Ytfjeediecmhedaa
open Go.RowKit
theorem run_app_none {w : World} {base n c : Nat} {v : Value} {xs : List Value} (t : TypeId) (hown : w.ownsRow base 5 1 v n xs) :
    (Builtin.append_ #[22, 22] t #[v, .slice none 0 c]).run Try.prog w = .ok v w := by
  obtain ⟨i, hi, _⟩ := info_parts info5
  obtain ⟨_, hf⟩ := hown
  rcases hf with ⟨rfl, rfl⟩ | ⟨g, cap, cur, rfl, _, _, hle, _⟩
  · simp [Builtin.append_, run_underlying Try.underlying22, sizeOf, typeInfo, hi, Builtin.lenOf, Builtin.firstCells]
  · simp [Builtin.append_, run_underlying Try.underlying22, sizeOf, typeInfo, hi, Builtin.lenOf, Builtin.firstCells, hle, storeCells]
theorem app_bt {ops : Array Oper} {rest : List Oper} {o : Oper} {a : Act} {Q : Exit → Act → World → Prop} {w : World} (hgd : o.guard = none) (s x : Operand)
    (ho : o.op = .call { callee := .builtin .append, args := #[s, x], argTypes := #[22, 22] }) (base n : Nat) (v : Value) (xs : List Value) (hs : a.eval s = v) (hown : w.ownsRow base 5 1 v n xs)
    (A : Option Addr) (m c : Nat) (l : List Int) (hx : a.eval x = .slice A m c) (hl : l.length = m) (hb : Bt w A l) (hsm : n + m ≤ 1000000) (hbase : base ≤ w.heap.size)
    (h : ∀ v' w', w'.ownsRow base 5 1 v' (n + m) (xs ++ l.map (Value.int .u8)) → Below base w w' → wpList Try.prog ops Q rest (a.put o.dst v') w') : wpList Try.prog ops Q (o :: rest) a w := by
  obtain ⟨i0, hi, hz0, hz1, hz2⟩ := info_parts info5
  cases A with
  | none =>
    obtain rfl : l = [] := by
      cases l with
      | nil => rfl
      | cons y l => obtain ⟨b, q, e, _⟩ := hb (by simp); cases e
    obtain rfl : m = 0 := hl.symm
    refine wpList_plain hgd fun K hK => ?_
    have hrun := run_app_none (c := c) o.type hown
    unfold Oper.wp
    simp [execOp, ho, resolve, invoke, builtin, hs, hx, hrun, Result.andThen]
    exact hK _ _ (h v w (by simpa using hown) (Below.refl _ _))
  | some ad =>
    refine wpList_append_own w hgd s x 22 ho base 5 i0 (.int .u8 0) 1 1 Try.underlying22 hi hz0 hz1 hz2 rfl (by decide) v n xs hs hown ad m c (l.map (Value.int .u8)) hx (by simp [hl]) (fun j u hj => ?_) (one_u8 _) (by unfold maxLen; omega) (by omega) hbase
      (fun v' w' h1 h2 _ => h v' w' h1 (grown_below hown h2 hbase))
    have h0 : 0 < l.length := by
      have := (List.getElem?_eq_some_iff.1 hj).1
      simp at this; omega
    obtain ⟨b, q, e, _, _⟩ := id hb h0
    injection e with e; subst e
    exact hb.news j u hj
theorem Bt.setg {w : World} {g : Nat} {l : List Int} {P : Nat} (h : Bt w (some ⟨g, 0, none⟩) l) (hP : P < g) (j : Nat) (u : Value) : Bt (w.setCell ⟨P, j, none⟩ u) (some ⟨g, 0, none⟩) l :=
  h.set P (fun b o q => by injection q with q; injection q with q _; omega) j u
theorem Bt.set9g {w : World} {g : Nat} {l : List Int} {P : Nat} (h : Bt w (some ⟨g, 0, none⟩) l) (hP : P < g) (v0 v1 v2 v3 v4 v5 v6 v7 v8 : Value) : Bt (((((((((w.setCell ⟨P, 0, none⟩ v0).setCell ⟨P, 1, none⟩ v1).setCell ⟨P, 2, none⟩ v2).setCell ⟨P, 3, none⟩ v3).setCell ⟨P, 4, none⟩ v4).setCell ⟨P, 5, none⟩ v5).setCell ⟨P, 6, none⟩ v6).setCell ⟨P, 7, none⟩ v7).setCell ⟨P, 8, none⟩ v8) (some ⟨g, 0, none⟩) l :=
  h.set9 (fun b o q => by injection q with q; injection q with q _; omega) _ _ _ _ _ _ _ _ _
theorem Bt.setF {w : World} {A : Option Addr} {l : List Int} {P B : Nat} (h : Bt w A l) (hX : Fr B A) (hP : P < B) (j : Nat) (u : Value) : Bt (w.setCell ⟨P, j, none⟩ u) A l :=
  h.set P (fun b o q => by have := hX b o q; omega) j u
theorem Bt.set9F {w : World} {A : Option Addr} {l : List Int} {P B : Nat} (h : Bt w A l) (hX : Fr B A) (hP : P < B) (v0 v1 v2 v3 v4 v5 v6 v7 v8 : Value) : Bt (((((((((w.setCell ⟨P, 0, none⟩ v0).setCell ⟨P, 1, none⟩ v1).setCell ⟨P, 2, none⟩ v2).setCell ⟨P, 3, none⟩ v3).setCell ⟨P, 4, none⟩ v4).setCell ⟨P, 5, none⟩ v5).setCell ⟨P, 6, none⟩ v6).setCell ⟨P, 7, none⟩ v7).setCell ⟨P, 8, none⟩ v8) A l :=
  h.set9 (fun b o q => by have := hX b o q; omega) _ _ _ _ _ _ _ _ _
theorem fr_at {B g : Nat} (h : B ≤ g) : Fr B (some ⟨g, 0, none⟩) := fun b o q => by injection q with q; injection q with q _; omega
theorem fr_le {B C : Nat} {A : Option Addr} (h : Fr B A) (hc : C ≤ B) : Fr C A := fun b o q => Nat.le_trans hc (h b o q)
/-- append of bytes in a drawn region; the sum of the lengths has a name -/
theorem step_app {ops : Array Oper} {o : Oper} {a : Act} {K : Act → World → Prop} {Q : Exit → Act → World → Prop} {E : Prop} {w : World} (hgd : o.guard = none) (s x : Operand)
    (ho : o.op = .call { callee := .builtin .append, args := #[s, x], argTypes := #[22, 22] }) (base n : Nat) (v : Value) (l : List Int) (hs : a.eval s = v) (hown : w.ownsRow base 5 1 v n (l.map (Value.int .u8)))
    (b q m c : Nat) (l2 : List Int) (hx : a.eval x = .slice (some ⟨b, q, none⟩) m c) (hl2 : l2.length = m) (hb : Bt w (some ⟨b, q, none⟩) l2) (hm : 0 < m) (hsm : n + m ≤ 1000000) (hbase : base ≤ w.heap.size) (d : Nat) (hd : n + m = d)
    (h : ∀ g cap w', base ≤ g → g < w'.heap.size → d ≤ cap → Bt w' (some ⟨g, 0, none⟩) (l ++ l2) → w'.ownsRow base 5 1 (.slice (some ⟨g, 0, none⟩) d cap) d ((l ++ l2).map (Value.int .u8)) → Below base w w' → K (a.put o.dst (.slice (some ⟨g, 0, none⟩) d cap)) w') :
    if Region.wanted o (yielded ops a.tmps) = true then Oper.wp Try.prog o a w K Q else E := by
  subst hd
  obtain ⟨i0, hi, hz0, hz1, hz2⟩ := info_parts info5
  refine step_append_lies w hgd s x 22 ho base 5 i0 (.int .u8 0) 1 1 Try.underlying22 hi hz0 hz1 hz2 rfl (by decide) v n (l.map (Value.int .u8)) hs hown ⟨b, q, none⟩ m c (l2.map (Value.int .u8)) hx (by simp [hl2]) hb.news (one_u8 _) hm (by unfold maxLen; omega) (by omega) hbase w.heap.size rfl ?_
  intro g cap w' h1 h2 _ h4
  rw [← List.map_append] at h1
  refine h g cap w' (own_ge h1 g rfl) h4 ?_ (own_bt h1) h1 (grown_below hown h2 hbase)
  obtain ⟨g', cap', hv, _, _, h, _⟩ := own_form h1 (by omega)
  injection hv with _ _ hv
  omega
end Go.Proofs.Ytfjeediecmhedaa
