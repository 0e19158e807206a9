/-
  Append of bytes in a drawn region. No condition.
-/
import Derived.Test.YtamajedopofcoaaCmd1
set_option linter.unusedVariables false
set_option linter.unusedSimpArgs false
namespace Go.Proofs.Ytamajedopofcoaa
open Go.RowKit
/-- append of bytes in a drawn region -/
theorem step_bt {ops : Array Oper} {o : Oper} {a : Act} {K : Act → World → Prop} {Q : Exit → Act → World → Prop} {E : Prop} {w : World} (hgd : o.guard = none) (s x : Operand)
    (ho : o.op = .call { callee := .builtin .append, args := #[s, x], argTypes := #[46, 46] }) (base n : Nat) (v : Value) (l : List Int) (hs : a.eval s = v) (hown : w.ownsRow base 5 1 v n (l.map (Value.int .u8)))
    (b q m c : Nat) (l2 : List Int) (hx : a.eval x = .slice (some ⟨b, q, none⟩) m c) (hl2 : l2.length = m) (hb : Ik .u8 w (some ⟨b, q, none⟩) l2) (hm : 0 < m) (hsm : n + m ≤ 1000000) (hbase : base ≤ w.heap.size) (d : Nat) (hd : n + m = d)
    (h : ∀ g cap w', base ≤ g → g < w'.heap.size → d ≤ cap → Ik .u8 w' (some ⟨g, 0, none⟩) (l ++ l2) → Below base w w' → K (a.put o.dst (.slice (some ⟨g, 0, none⟩) d cap)) w') :
    if Region.wanted o (yielded ops a.tmps) = true then Oper.wp Try.prog o a w K Q else E := by
  subst hd
  obtain ⟨i0, hi, hz0, hz1, hz2⟩ := info_parts info5
  refine step_append_lies w hgd s x 46 ho base 5 i0 (.int .u8 0) 1 1 Try.underlying46 hi hz0 hz1 hz2 rfl (by decide) v n (l.map (Value.int .u8)) hs hown ⟨b, q, none⟩ m c (l2.map (Value.int .u8)) hx (by simp [hl2]) hb.news (one_int _ _) hm (by unfold maxLen; omega) (by omega) hbase w.heap.size rfl ?_
  intro g cap w' h1 h2 _ h4
  rw [← List.map_append] at h1
  obtain ⟨A, c', hv, hc', _, hik, _, _⟩ := own_bt h1
  injection hv with hv1 _ hv2
  subst hv1 hv2
  exact h g cap w' (own_ge h1 g rfl) h4 hc' hik (grown_below hown h2 hbase)
end Go.Proofs.Ytamajedopofcoaa
