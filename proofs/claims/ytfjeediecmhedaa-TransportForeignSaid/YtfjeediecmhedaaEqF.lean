/-
  The contract of slices.EqualFunc with bytes.Equal on two equal rows of frames. No condition but the rows' shape.
-/
import Derived.Test.YtfjeediecmhedaaCar0
set_option linter.unusedVariables false
set_option linter.unusedSimpArgs false
namespace Go.Proofs.Ytfjeediecmhedaa
open Go.RowKit
theorem Rw.get {w : World} {Na : Nat → Prop} {xs : List Value} {fs : List (List Int)} (h : Rw w Na xs fs) {i : Nat} (hi : i < fs.length) : ∃ B d, xs[i]? = some (.slice B fs[i].length d) ∧ fs[i].length ≤ d ∧ Bt w B fs[i] ∧ ∀ b o, B = some ⟨b, o, none⟩ → Na b ∧ b < w.heap.size := by
  have h1 : xs[i]? = some (xs[i]'(by rw [h.1]; exact hi)) := List.getElem?_eq_getElem _
  obtain ⟨B, d, e, h2, h3, h4⟩ := h.2 i _ _ h1 (List.getElem?_eq_getElem hi)
  exact ⟨B, d, by rw [h1, e], h2, h3, h4⟩
set_option maxRecDepth 100000 in
set_option maxHeartbeats 4000000 in
theorem eqf16 (g d g2 d2 m : Nat) (xs ys : List Value) (fs : List (List Int)) (N1 N2 : Nat → Prop) (w : World) (hm : m = fs.length) (hsz : m ≤ 1000000) (hd : m ≤ d) (hd2 : m ≤ d2) (hg : g < w.heap.size) (hg2 : g2 < w.heap.size) (hx : Rw w N1 xs fs) (hy : Rw w N2 ys fs) (cx : ∀ j u, xs[j]? = some u → w.cell? ⟨g, j, none⟩ = some u) (cy : ∀ j u, ys[j]? = some u → w.cell? ⟨g2, j, none⟩ = some u) :
    Calls Try.prog 16 #[.slice (some ⟨g, 0, none⟩) m d, .slice (some ⟨g2, 0, none⟩) m d2, .func (.func 18) #[] #[]] w fun r w' => r = .returned (.bool true) ∧ Below w.heap.size w w' := by
  have HX := Lib.hid hx
  have HY := Lib.hid hy
  have CX := Lib.hid cx
  have CY := Lib.hid cy
  have HM := Lib.hid hm
  clear hx hy cx cy hm
  go_enter Try.func16, Try.ntmps16
  go_wp2_with fail
  go_loopg [17] m (fun gk v wr => ∃ i : Nat, i ≤ m ∧ m - i ≤ gk ∧ v = .int .i64 i ∧ Below w.heap.size w wr)
  case atStart => exact ⟨0, by omega, by omega, rfl, Below.refl _ _⟩
  case round =>
    obtain ⟨i, hi, hgk, rfl, hb⟩ := hrel
    have hz := hb.size
    by_cases hlt : i < m
    · have hf : i < fs.length := by rw [← HM.out]; exact hlt
      obtain ⟨B, c, e1, h1, h2, h3⟩ := (HX.out.below hb).get hf
      obtain ⟨B2, c2, e2, k1, k2, k3⟩ := (HY.out.below hb).get hf
      have q1 : wr.cell? ⟨g, i, none⟩ = some (.slice B fs[i].length c) := ((bcell hb).1 _ _ hg).trans (CX.out i _ e1)
      have q2 : wr.cell? ⟨g2, i, none⟩ = some (.slice B2 fs[i].length c2) := ((bcell hb).1 _ _ hg2).trans (CY.out i _ e2)
      obtain ⟨f, hfi⟩ : ∃ f, f = fs[i] := ⟨_, rfl⟩
      rw [← hfi] at q1 q2 h1 h2 k1 k2
      have E := Lib.hid (equal18 B B2 f.length c c2 f wr rfl h2 k2)
      clear e1 e2 h2 k2 h3 k3 hfi hf
      go_wp2_with fail
      refine E.out.mono ?_
      rintro r w1 ⟨rfl, rfl⟩
      go_wp2_with fail
      go_roundg (m - (i + 1))
      case measure => omega
      case rel => exact ⟨i + 1, by omega, by omega, by go_num, hb⟩
    · obtain rfl : i = m := by omega
      go_wp2
      go_ret
      exact ⟨rfl, hb⟩
end Go.Proofs.Ytfjeediecmhedaa
