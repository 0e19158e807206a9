/-
  Pages that came in, opened. No condition.
  Measures that came in, opened. No condition.
-/
import Derived.Test.YtamajedopofcoaaZBase
import Derived.Test.YtamajedopofcoaaZF
set_option linter.unusedVariables false
set_option linter.unusedSimpArgs false
namespace Go.Proofs.Ytamajedopofcoaa
open Go.RowKit
def lst (n : Nat) (f : Nat → Int) : List Int := (List.range n).map f
theorem lst_len (n : Nat) (f : Nat → Int) : (lst n f).length = n := by simp [lst]
theorem lst_ik {k : IntKind} {w : World} {A : Option Addr} {n : Nat} {f : Nat → Int} (h : Ints k w A n f) : Ik k w A (lst n f) := fun h0 => by
  rw [lst_len] at h0
  obtain ⟨b, off, hA, hb, hc⟩ := h h0
  refine ⟨b, off, hA, hb, fun i x hx => ?_⟩
  have hlt : i < n := by have := (List.getElem?_eq_some_iff.1 hx).1; rwa [lst_len] at this
  have e : x = f i := by simpa [lst, hlt] using hx.symm
  rw [e]; exact hc i hlt
theorem lst_wf {k : IntKind} {n : Nat} {f : Nat → Int} (h : ∀ i, (Lit.int k (f i)).wf = true) : ∀ x ∈ lst n f, (Lit.int k x).wf = true := by
  intro x hx
  obtain ⟨i, _, rfl⟩ := List.mem_map.1 hx
  exact h i
def prs (n : Nat) (f g : Nat → Int) : List (Int × Int) := (List.range n).map fun i => (f i, g i)
theorem prs_len (n : Nat) (f g : Nat → Int) : (prs n f g).length = n := by simp [prs]
theorem flat_at (ch : List (Int × Int)) : ∀ (j : Nat) (x : Int), (flat ch)[j]? = some x → ∃ p, ch[j / 2]? = some p ∧ ((j % 2 = 0 ∧ x = p.1) ∨ (j % 2 = 1 ∧ x = p.2)) := by
  intro j x h
  have hl : j / 2 < ch.length := by
    have := (List.getElem?_eq_some_iff.1 h).1
    rw [flat_len] at this; omega
  refine ⟨ch[j / 2], List.getElem?_eq_getElem hl, ?_⟩
  obtain ⟨h1, h2⟩ := flat_get ch (j / 2) _ (List.getElem?_eq_getElem hl)
  rcases (by omega : j % 2 = 0 ∨ j % 2 = 1) with e | e
  · left
    have : j / 2 * 2 = j := by omega
    rw [this, h] at h1
    exact ⟨e, Option.some.inj h1⟩
  · right
    have : j / 2 * 2 + 1 = j := by omega
    rw [this, h] at h2
    exact ⟨e, Option.some.inj h2⟩
section
open Go.ChangeShapes Go.WideShapes Go.ChangeAt
variable {H : Type} {enc : TypeId × Value → H} {w : World} {base : Nat} {spare : Nat → Bool} {held : Bool}
theorem cells_ints {fuel : Nat} {cs : List Value} {x : DataW H × List MemPlace} (ht : DataW.trod enc Try.prog w base spare held fuel 22 cs = some x) : ∃ (A : Option Addr) (n c : Nat) (l : List Int), cs = [.slice A n c] ∧ l.length = n ∧ n ≤ c ∧ Ik .i64 w A l := by
  obtain ⟨A, len, cap, E, hv, hl, hm, hn, hE, hcell⟩ := open_cells Try.underlying22 ht
  have hC : Try.prog.cellsOf 3 = 1 := by kernel_rfl
  have hx : ∀ i, ∃ x : Int, (Lit.int .i64 x).wf = true ∧ (i < len → E i = [.int .i64 x]) := fun i => by
    by_cases hi : i < len
    · obtain ⟨_, n, y, hy⟩ := hE i hi
      obtain ⟨x, e', _, hw⟩ := DataW.trod_int Try.underlying3 hy
      exact ⟨x, hw, fun _ => e'⟩
    · exact ⟨0, by decide, fun h => absurd h hi⟩
  refine ⟨A, len, cap, lst len (fun i => Classical.choose (hx i)), hv, lst_len _ _, hl, lst_ik (fun h0 => ?_)⟩
  obtain ⟨b, off, hA, hb, hcell⟩ := hcell h0 (by rw [hC]; exact Nat.one_pos)
  refine ⟨b, off, hA, hb, fun i hi => ?_⟩
  have := hcell i 0 _ hi (by rw [(Classical.choose_spec (hx i)).2 hi]; rfl)
  rw [hC] at this
  simpa using this
theorem field_ints {cs : List Value} {fs : Array Field} (hf : ∀ (j : Nat) (f : Field), fs[j]? = some f → ∃ (c : Value) (y : DataW H × List MemPlace) (n : Nat), cs[j]? = some c ∧ DataW.trod enc Try.prog w base spare held n f.type [c] = some y)
    (j : Nat) {f : Field} (hj : fs[j]? = some f) (hu : f.type = 22) : ∃ (A : Option Addr) (n c : Nat) (l : List Int), cs[j]? = some (.slice A n c) ∧ l.length = n ∧ n ≤ c ∧ Ik .i64 w A l := by
  obtain ⟨v, y, n, hc, ht⟩ := hf j f hj
  rw [hu] at ht
  obtain ⟨A, len, cap, l, hv, h⟩ := cells_ints ht
  obtain rfl : v = .slice A len cap := by simpa using hv
  exact ⟨A, len, cap, l, hc, h⟩
/-- two numbers of a patch -/
theorem patch_two {cs : List Value} {n : Nat} {y : DataW H × List MemPlace} (hcs : cs.length = Try.prog.cellsOf 56) (h : DataW.trod enc Try.prog w base spare held n 56 cs = some y) : ∃ a b : Int, cs = [.int .i64 a, .int .i64 b] := by
  obtain ⟨hl, hf⟩ := elem_agg Try.underlying56 (by kernel_rfl) (by kernel_rfl) hcs h
  obtain ⟨a, e0, _⟩ := field_int hf 0 rfl Try.underlying3
  obtain ⟨b, e1, _⟩ := field_int hf 1 rfl Try.underlying3
  exact ⟨a, b, list_of2 hl e0 e1⟩
theorem cells_patches {fuel : Nat} {cs : List Value} {x : DataW H × List MemPlace} (ht : DataW.trod enc Try.prog w base spare held fuel 23 cs = some x) : ∃ (A : Option Addr) (n c : Nat) (ch : List (Int × Int)), cs = [.slice A n c] ∧ ch.length = n ∧ n ≤ c ∧ Ik .i64 w A (flat ch) := by
  obtain ⟨A, len, cap, E, hv, hl, hm, hn, hE, hcell⟩ := open_cells Try.underlying23 ht
  have hC : Try.prog.cellsOf 56 = 2 := by kernel_rfl
  have hx : ∀ i, ∃ q : Int × Int, (i < len → E i = [.int .i64 q.1, .int .i64 q.2]) := fun i => by
    by_cases hi : i < len
    · obtain ⟨hs, n, y, hy⟩ := hE i hi
      obtain ⟨a, b, e⟩ := patch_two hs hy
      exact ⟨(a, b), fun _ => e⟩
    · exact ⟨(0, 0), fun h => absurd h hi⟩
  refine ⟨A, len, cap, prs len (fun i => (Classical.choose (hx i)).1) (fun i => (Classical.choose (hx i)).2), hv, prs_len _ _ _, hl, fun h0 => ?_⟩
  rw [flat_len, prs_len] at h0
  obtain ⟨b, off, hA, hb, hcell⟩ := hcell (by omega) (by rw [hC]; exact Nat.succ_pos 1)
  refine ⟨b, off, hA, hb, fun j x hj => ?_⟩
  obtain ⟨p, hp, hc⟩ := flat_at _ j x hj
  have hlt : j / 2 < len := by have := (List.getElem?_eq_some_iff.1 hp).1; rwa [prs_len] at this
  have e : p = ((Classical.choose (hx (j / 2))).1, (Classical.choose (hx (j / 2))).2) := by simpa [prs, hlt] using hp.symm
  have hE2 := (Classical.choose_spec (hx (j / 2))) hlt
  rcases hc with ⟨h2, rfl⟩ | ⟨h2, rfl⟩
  · have := hcell (j / 2) 0 _ hlt (by rw [hE2]; rfl)
    rw [hC] at this
    have e2 : off + j = off + (j / 2 * 2 + 0) := by omega
    rw [e, e2]; exact this
  · have := hcell (j / 2) 1 _ hlt (by rw [hE2]; rfl)
    rw [hC] at this
    have e2 : off + j = off + (j / 2 * 2 + 1) := by omega
    rw [e, e2]; exact this
theorem open_pages {r : Reach} {b0 : Nat} {v : Value} {d : DataW H} {p : List MemPlace} (hv : Value.okWide Try.prog w r b0 25 v) (h : DataW.Trod enc Try.prog w base spare held 25 v d p) :
    ∃ (A : Option Addr) (n c : Nat) (A2 : Option Addr) (n2 c2 : Nat) (Ac Pe : Int) (A3 : Option Addr) (m c3 : Nat) (R W : List Int) (ch : List (Int × Int)), v = .agg #[.slice A n c, .slice A2 n2 c2, .int .i64 Ac, .int .i64 Pe, .slice A3 m c3] ∧ R.length = n ∧ n ≤ c ∧ Ik .i64 w A R ∧ W.length = n2 ∧ n2 ≤ c2 ∧ Ik .i64 w A2 W ∧ ch.length = m ∧ m ≤ c3 ∧ Ik .i64 w A3 (flat ch) := by
  obtain ⟨cs, rfl, hl, hf⟩ := open_agg Try.underlying25 (by kernel_rfl) (by kernel_rfl) hv h
  obtain ⟨A, n, c, R, e0, h1, h2, h3⟩ := field_ints hf 0 rfl rfl
  obtain ⟨A2, n2, c2, W, e1, h4, h5, h6⟩ := field_ints hf 1 rfl rfl
  obtain ⟨Ac, e2, _⟩ := field_int hf 2 rfl Try.underlying3
  obtain ⟨Pe, e3, _⟩ := field_int hf 3 rfl Try.underlying3
  obtain ⟨v4, y, k, e4, ht⟩ := hf 4 _ rfl
  obtain ⟨A3, m, c3, ch, hv4, h7, h8, h9⟩ := cells_patches ht
  obtain rfl : v4 = .slice A3 m c3 := by simpa using hv4
  obtain rfl := list_of5 hl e0 e1 e2 e3 e4
  exact ⟨A, n, c, A2, n2, c2, Ac, Pe, A3, m, c3, R, W, ch, rfl, h1, h2, h3, h4, h5, h6, h7, h8, h9⟩
end
end Go.Proofs.Ytamajedopofcoaa
set_option linter.unusedVariables false
set_option linter.unusedSimpArgs false
namespace Go.Proofs.Ytamajedopofcoaa
open Go.RowKit
theorem flatM_at (l : List MV) : ∀ (j : Nat) (u : Value), (flatM l)[j]? = some u → ∃ x, l[j / 5]? = some x ∧ x.vals[j % 5]? = some u := by
  intro j u h
  have hl : j / 5 < l.length := by
    have := (List.getElem?_eq_some_iff.1 h).1
    rw [flatM_len] at this; omega
  refine ⟨l[j / 5], List.getElem?_eq_getElem hl, ?_⟩
  have h2 := flatM_get l (j / 5) _ (List.getElem?_eq_getElem hl) (j % 5) (by omega)
  rw [← h2, show j / 5 * 5 + j % 5 = j by omega]
  exact h
def mvs (n : Nat) (f : Nat → MV) : List MV := (List.range n).map f
theorem mvs_len (n : Nat) (f : Nat → MV) : (mvs n f).length = n := by simp [mvs]
section
open Go.ChangeShapes Go.WideShapes Go.ChangeAt
variable {H : Type} {enc : TypeId × Value → H} {w : World} {base : Nat} {spare : Nat → Bool} {held : Bool}
/-- the five cells of a measure that came in -/
theorem meas_five {cs : List Value} {n : Nat} {y : DataW H × List MemPlace} (hcs : cs.length = Try.prog.cellsOf 66) (h : DataW.trod enc Try.prog w base spare held n 66 cs = some y) : ∃ x : MV, cs = x.vals ∧ x.m.Ce.length ≤ x.c ∧ Ik .i64 w x.B x.m.Ce := by
  obtain ⟨hl, hf⟩ := elem_agg Try.underlying66 (by kernel_rfl) (by kernel_rfl) hcs h
  obtain ⟨Ev, e0, _⟩ := field_int hf 0 rfl Try.underlying3
  obtain ⟨Ey, e1, _⟩ := field_int hf 1 rfl Try.underlying3
  obtain ⟨Co, e2, _⟩ := field_int hf 2 rfl Try.underlying3
  obtain ⟨B, k, c, l, e3, h1, h2, h3⟩ := field_ints hf 3 rfl rfl
  obtain ⟨Ru, e4⟩ := field_bool hf 4 rfl Try.underlying4
  subst h1
  exact ⟨⟨⟨Ev, Ey, Co, l, Ru⟩, B, c⟩, list_of5 hl e0 e1 e2 e3 e4, h2, h3⟩
theorem open_meas {r : Reach} {b0 : Nat} {v : Value} {d : DataW H} {p : List MemPlace} (hv : Value.okWide Try.prog w r b0 45 v) (h : DataW.Trod enc Try.prog w base spare held 45 v d p) :
    ∃ (A : Option Addr) (n c : Nat) (l : List MV), v = .slice A n c ∧ l.length = n ∧ n ≤ c ∧ Cv w A (flatM l) ∧ Mo [] w l := by
  obtain ⟨A, len, cap, E, hv, hl, hm, hn, hE, hcell⟩ := open_sl Try.underlying45 hv h
  have hC : Try.prog.cellsOf 66 = 5 := by kernel_rfl
  have hx : ∀ i, ∃ x : MV, (i < len → E i = x.vals ∧ x.m.Ce.length ≤ x.c ∧ Ik .i64 w x.B x.m.Ce) := fun i => by
    by_cases hi : i < len
    · obtain ⟨hs, n, y, hy⟩ := hE i hi
      obtain ⟨x, h1, h2, h3⟩ := meas_five hs hy
      exact ⟨x, fun _ => ⟨h1, h2, h3⟩⟩
    · exact ⟨⟨⟨0, 0, 0, [], false⟩, none, 0⟩, fun h => absurd h hi⟩
  have hg : ∀ (i : Nat) (x : MV), (mvs len (fun i => Classical.choose (hx i)))[i]? = some x → i < len ∧ x = Classical.choose (hx i) := fun i x hi => by
    have hlt : i < len := by have := (List.getElem?_eq_some_iff.1 hi).1; rwa [mvs_len] at this
    exact ⟨hlt, by simpa [mvs, hlt] using hi.symm⟩
  refine ⟨A, len, cap, mvs len (fun i => Classical.choose (hx i)), hv, mvs_len _ _, hl, fun h0 => ?_, fun x hxm => ?_⟩
  · rw [flatM_len, mvs_len] at h0
    obtain ⟨b, off, hA, hb, hcell⟩ := hcell (by omega) (by rw [hC]; exact Nat.succ_pos 4)
    refine ⟨b, off, hA, hb, fun j u hj => ?_⟩
    obtain ⟨x, hp, hc⟩ := flatM_at _ j u hj
    obtain ⟨hlt, e⟩ := hg _ x hp
    have h5 := ((Classical.choose_spec (hx (j / 5))) hlt).1
    rw [← e] at h5
    have := hcell (j / 5) (j % 5) u hlt (by rw [h5]; exact hc)
    rw [hC] at this
    rw [show off + j = off + (j / 5 * 5 + j % 5) by omega]
    exact this
  · obtain ⟨i, hi⟩ := List.getElem?_of_mem hxm
    obtain ⟨hlt, e⟩ := hg i x hi
    obtain ⟨_, h2, h3⟩ := (Classical.choose_spec (hx i)) hlt
    rw [← e] at h2 h3
    exact ⟨h2, h3, fun _ _ _ _ => List.not_mem_nil⟩
end
end Go.Proofs.Ytamajedopofcoaa
