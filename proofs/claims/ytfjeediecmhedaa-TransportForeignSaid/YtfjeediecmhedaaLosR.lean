/-
  Rows of frames in the law TransportLoss; the call of Tick with which it ends. No condition but the slices' shape.
-/
import Derived.Test.YtfjeediecmhedaaLosP
import Derived.Test.YtfjeediecmhedaaEqF
import Derived.Test.YtfjeediecmhedaaCar4
import Derived.Test.YtfjeediecmhedaaTick
set_option linter.unusedVariables false
set_option linter.unusedSimpArgs false
namespace Go.Proofs.Ytfjeediecmhedaa
open Go.RowKit
/-- append of frames to a row of the call's own, in a drawn region -/
theorem step_row {ops : Array Oper} {o : Oper} {a : Act} {K : Act → World → Prop} {Q : Exit → Act → World → Prop} {E : Prop} {w : World} (hgd : o.guard = none) (s x : Operand)
    (ho : o.op = .call { callee := .builtin .append, args := #[s, x], argTypes := #[25, 25] }) (base n : Nat) (v : Value) (xs : List Value) (hs : a.eval s = v) (hown : w.ownsRow base 22 1 v n xs)
    (ad : Addr) (m c : Nat) (ys : List Value) (hx : a.eval x = .slice (some ad) m c) (hl : ys.length = m) (hc : ∀ j u, ys[j]? = some u → w.cell? (ad.add j) = some u) (h1 : ∀ v ∈ ys, v.oneCell' = true) (hm : 0 < m) (hsm : n + m ≤ 1000000) (hbase : base ≤ w.heap.size) (d : Nat) (hd : n + m = d)
    (h : ∀ g cap w', base ≤ g → g < w'.heap.size → d ≤ cap → (∀ j u, (xs ++ ys)[j]? = some u → w'.cell? ⟨g, j, none⟩ = some u) → Below base w w' → K (a.put o.dst (.slice (some ⟨g, 0, none⟩) d cap)) w') :
    if Region.wanted o (yielded ops a.tmps) = true then Oper.wp Try.prog o a w K Q else E := by
  subst hd
  obtain ⟨i0, hi, hz0, hz1, hz2⟩ := info_parts info22
  refine step_append_lies w hgd s x 25 ho base 22 i0 (.slice none 0 0) 1 24 Try.underlying25 hi hz0 hz1 hz2 rfl (by decide) v n xs hs hown ad m c ys hx (by simpa using hl) hc h1 hm (by unfold maxLen; omega) (by omega) hbase w.heap.size rfl ?_
  intro g cap w' h1 h2 _ h4
  obtain ⟨A', c', hv, hA', hc', _⟩ := own_slice h1
  injection hv with hv1 _ hv3
  subst hv3
  refine h g cap w' (own_ge h1 g rfl) h4 hc' (fun j u hj => ?_) (grown_below hown h2 hbase)
  obtain ⟨b', e, _, _, hcell⟩ := hA' (by omega)
  rw [← hv1] at e
  injection e with e; injection e with e
  subst e
  exact hcell j u hj
/-- a row's literal of one frame -/
theorem own_lit1 {w : World} {base g : Nat} (hg : g = w.heap.size) (hb : base ≤ w.heap.size) (x : Value) : (w.alloc (.cells #[x] 22)).ownsRow base 22 1 (.slice (some ⟨g, 0, none⟩) 1 1) 1 [x] := by
  subst hg
  exact World.ownsRow_lit w #[x] 1 hb (by simp [maxLen]) rfl
/-- the row without its second frame -/
theorem Rw.cut {w : World} {Na : Nat → Prop} {x : Value} {xs : List Value} {f g : List Int} {fs : List (List Int)} (h : Rw w Na xs (f :: g :: fs)) (hx : xs[0]? = some x) : Rw w Na (x :: xs.drop 2) (f :: fs) := by
  have hl := h.1
  simp only [List.length_cons] at hl
  refine ⟨by simp; omega, fun i y k h1 h2 => ?_⟩
  cases i with
  | zero =>
    simp only [List.getElem?_cons_zero, Option.some.injEq] at h1 h2
    subst h1 h2
    exact h.2 0 _ _ hx rfl
  | succ i =>
    simp only [List.getElem?_cons_succ] at h1 h2
    rw [List.getElem?_drop] at h1
    refine h.2 (2 + i) y k h1 ?_
    rw [show 2 + i = i + 2 by omega]
    simpa using h2
theorem Rw.one' {w : World} {Na : Nat → Prop} {xs : List Value} {fs : List (List Int)} (h : Rw w Na xs fs) : ∀ v ∈ xs, v.oneCell' = true := by
  intro v hv
  obtain ⟨i, hi, rfl⟩ := List.mem_iff_getElem.1 hv
  obtain ⟨B, d, e, _⟩ := h.2 i _ _ (List.getElem?_eq_getElem hi) (List.getElem?_eq_getElem (show i < fs.length by rw [← h.1]; exact hi))
  rw [e]; rfl
theorem lfr_get (l : List Int) (k : Nat) (hk : k ≤ l.length / 7) : (ffr l :: (List.range' 1 (l.length / 7)).map (cfr l))[k]? = some (lfr l k) := by
  cases k with
  | zero => rfl
  | succ k =>
    simp only [List.getElem?_cons_succ, List.getElem?_map]
    rw [List.getElem?_range' (by omega)]
    simp [lfr, Nat.add_comm]
theorem byt_lfr {l : List Int} (h : Byt l) (h2 : l.length ≤ 1023) (k : Nat) : Byt (lfr l k) := by
  unfold lfr
  split
  · exact byt_ffr h h2
  · exact byt_cfr h k
theorem lfr_len {l : List Int} (h : 8 ≤ l.length) (k : Nat) : (lfr l k).length = 8 := by
  unfold lfr
  split
  · rw [ffr_eq h]; simp; omega
  · exact cfr_len l k
theorem tick_end {l : List Int} (h8 : 8 ≤ l.length) (h9 : l.length ≤ 1023) {i kd : Nat} (i0 : 1 ≤ i) (i1 : i ≤ l.length / 7) {S : RS} {now : Int} (h : LR l i kd (l.length / 7 + 1) S now) (A : Option Addr) (n c : Nat) (t : Int) (ht : t = now + 1000001) (w : World) (hl : S.l.length = n) (hb : Bt w A S.l) (hc : n ≤ c) :
    Calls Try.prog 14 #[.agg #[.slice A n c, .int .i64 (S).Le, .int .i64 (S).Nu, .int .i64 (S).Bl, .int .i64 (S).Gt, .bool (S).Bu, .bool (S).Dn, .int .i64 (S).Dl, .bool (S).Fl], .int .i64 t] w (RQ (fld 0) w) := by
  subst ht
  rcases h with ⟨h, _⟩ | ⟨_, h, _⟩ | ⟨h, rfl, rfl, rfl⟩ | ⟨_, rfl, hn⟩
  · omega
  · omega
  · have hok : (mid l 0 i 0 1000000).ok = true := mid_ok h8 h9 i0 (by omega) (by omega) (by omega) (by omega) (by omega) (.inl rfl) (by omega) (by omega)
    unfold RS.ok at hok
    rw [hl] at hok
    exact tick14_late A n c _ _ _ _ _ _ _ (mid l 0 i 0 1000000).l _ w hok (inB_mk (by omega) (by omega)) (by show (1000000 : Int) < 0 + 1000001; omega)
  · have hok : (fld 0).ok = true := fld_ok (by omega) (by omega)
    unfold RS.ok at hok
    rw [hl] at hok
    exact tick14_same A n c _ _ _ _ _ _ _ _ (fld 0).l _ w hl hb hc hok (inB_mk (by omega) (by omega)) (.inl rfl)
theorem lr_time {l : List Int} {i kd k : Nat} {S : RS} {now : Int} (h : LR l i kd k S now) : 0 ≤ now ∧ now ≤ 1000001 := by
  rcases h with ⟨_, _, rfl⟩ | ⟨_, _, _, rfl⟩ | ⟨_, _, _, rfl⟩ | ⟨_, _, rfl | rfl⟩ <;> omega
end Go.Proofs.Ytfjeediecmhedaa
