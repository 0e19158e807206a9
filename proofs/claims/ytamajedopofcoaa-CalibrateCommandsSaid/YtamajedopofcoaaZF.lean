/-
  Measures in plain terms and in memory. No condition.
  The contract of copyMeasures. No condition but the slice's shape.
  The contracts of the tests of one measure. No condition but the slice's shape.
  The contracts of the tests of a row of measures. No condition but the slice's shape.
  The contracts of the reference's tests of measures. No condition but the slice's shape.
  Measures in memory; worlds that differ in one block. No condition.
-/
import Derived.Test.YtamajedopofcoaaZC
import Derived.OneCell
import Derived.Test.YtamajedopofcoaaZA
set_option linter.unusedVariables false
set_option linter.unusedSimpArgs false
namespace Go.Proofs.Ytamajedopofcoaa
open Go.RowKit
/-- a measure in plain terms; MV: and where its cells lie -/
structure MS where
  Ev : Int
  Ey : Int
  Co : Int
  Ce : List Int
  Ru : Bool
structure MV where
  m : MS
  B : Option Addr
  c : Nat
def MV.vals (x : MV) : List Value := [.int .i64 x.m.Ev, .int .i64 x.m.Ey, .int .i64 x.m.Co, .slice x.B x.m.Ce.length x.c, .bool x.m.Ru]
def flatM (l : List MV) : List Value := l.flatMap MV.vals
theorem flatM_len (l : List MV) : (flatM l).length = l.length * 5 := by
  induction l with
  | nil => rfl
  | cons x l ih => simp only [flatM, List.flatMap_cons, List.length_append, MV.vals, List.length_cons, List.length_nil] at ih ⊢; omega
theorem flatM_append (a b : List MV) : flatM (a ++ b) = flatM a ++ flatM b := by simp [flatM]
theorem flatM_one (x : MV) : flatM [x] = x.vals := by simp [flatM]
theorem flatM_get (l : List MV) : ∀ (i : Nat) (x : MV), l[i]? = some x → ∀ j, j < 5 → (flatM l)[i * 5 + j]? = x.vals[j]? := by
  induction l with
  | nil => intro i x h; simp at h
  | cons q l ih =>
    intro i x h j hj
    have e : flatM (q :: l) = q.vals ++ flatM l := by simp [flatM]
    have hq : q.vals.length = 5 := rfl
    cases i with
    | zero =>
      simp only [List.getElem?_cons_zero, Option.some.injEq] at h
      subst h
      rw [e, Nat.zero_mul, Nat.zero_add, List.getElem?_append_left (by omega)]
    | succ i =>
      simp only [List.getElem?_cons_succ] at h
      rw [e, List.getElem?_append_right (by omega), hq, show (i + 1) * 5 + j - 5 = i * 5 + j by omega]
      exact ih i x h j hj
theorem flatM_set (l : List MV) : ∀ (i : Nat) (x y : MV) (j : Nat) (u : Value), l[i]? = some x → j < 5 → x.vals.set j u = y.vals → (flatM l).set (i * 5 + j) u = flatM (l.set i y) := by
  induction l with
  | nil => intro i x y j u h; simp at h
  | cons q l ih =>
    intro i x y j u h hj hv
    have e : ∀ (q : MV) (l : List MV), flatM (q :: l) = q.vals ++ flatM l := fun q l => by simp [flatM]
    have hq : q.vals.length = 5 := rfl
    cases i with
    | zero =>
      simp only [List.getElem?_cons_zero, Option.some.injEq] at h
      subst h
      rw [List.set_cons_zero, e, e, Nat.zero_mul, Nat.zero_add, List.set_append_left _ _ (by omega), hv]
    | succ i =>
      simp only [List.getElem?_cons_succ] at h
      rw [List.set_cons_succ, e, e, List.set_append_right _ _ (by omega), hq, show (i + 1) * 5 + j - 5 = i * 5 + j by omega, ih i x y j u h hj hv]
theorem flatM_one_cell (l : List MV) : ∀ v ∈ flatM l, v.oneCell' = true := by
  intro v hv
  obtain ⟨x, _, hx⟩ := List.mem_flatMap.1 hv
  simp only [MV.vals, List.mem_cons, List.not_mem_nil, or_false] at hx
  rcases hx with rfl | rfl | rfl | rfl | rfl <;> rfl
/-- values in memory -/
def Cv (w : World) (A : Option Addr) (vs : List Value) : Prop := 0 < vs.length → ∃ b o, A = some ⟨b, o, none⟩ ∧ b < w.heap.size ∧ ∀ i v, vs[i]? = some v → w.cell? ⟨b, o + i, none⟩ = some v
theorem Cv.below {w w' : World} {A : Option Addr} {vs : List Value} (h : Cv w A vs) (hb : Below w.heap.size w w') : Cv w' A vs := fun h0 => by
  obtain ⟨b, o, rfl, hbl, hc⟩ := h h0
  exact ⟨b, o, rfl, Nat.lt_of_lt_of_le hbl hb.size, fun i v hv => ((bcell hb).1 _ _ hbl).trans (hc i v hv)⟩
theorem Cv.nil (w : World) (A : Option Addr) : Cv w A [] := fun h => absurd h (Nat.lt_irrefl 0)
theorem Cv.news {w : World} {b o : Nat} {vs : List Value} (h : Cv w (some ⟨b, o, none⟩) vs) : ∀ j v, vs[j]? = some v → w.cell? ((⟨b, o, none⟩ : Addr).add j) = some v := by
  intro j v hj
  rw [WideShapes.add_plain]
  obtain ⟨b', o', e, _, hc⟩ := h (Nat.lt_of_le_of_lt (Nat.zero_le _) (List.getElem?_eq_some_iff.1 hj).1)
  injection e with e; injection e with e1 e2
  subst e1; subst e2
  exact hc j v hj
/-- the five cells of a measure -/
theorem Cv.five {w : World} {A : Option Addr} {l : List MV} (h : Cv w A (flatM l)) {i : Nat} {x : MV} (hx : l[i]? = some x) :
    ∃ b o, A = some ⟨b, o, none⟩ ∧ b < w.heap.size ∧ w.cell? ⟨b, o + i * 5, none⟩ = some (.int .i64 x.m.Ev) ∧ w.cell? ⟨b, o + i * 5 + 1, none⟩ = some (.int .i64 x.m.Ey) ∧ w.cell? ⟨b, o + i * 5 + 2, none⟩ = some (.int .i64 x.m.Co) ∧ w.cell? ⟨b, o + i * 5 + 3, none⟩ = some (.slice x.B x.m.Ce.length x.c) ∧ w.cell? ⟨b, o + i * 5 + 4, none⟩ = some (.bool x.m.Ru) := by
  have hi : i < l.length := (List.getElem?_eq_some_iff.1 hx).1
  obtain ⟨b, o, rfl, hbl, hc⟩ := h (by rw [flatM_len]; omega)
  have g := flatM_get l i x hx
  refine ⟨b, o, rfl, hbl, ?_, ?_, ?_, ?_, ?_⟩
  · exact hc (i * 5 + 0) _ ((g 0 (by omega)).trans rfl)
  · exact hc (i * 5 + 1) _ ((g 1 (by omega)).trans rfl)
  · exact hc (i * 5 + 2) _ ((g 2 (by omega)).trans rfl)
  · exact hc (i * 5 + 3) _ ((g 3 (by omega)).trans rfl)
  · exact hc (i * 5 + 4) _ ((g 4 (by omega)).trans rfl)
/-- the cells of each measure lie in memory, and not in the blocks S -/
def Mo (S : List Nat) (w : World) (l : List MV) : Prop := ∀ x ∈ l, x.m.Ce.length ≤ x.c ∧ Ik .i64 w x.B x.m.Ce ∧ (0 < x.m.Ce.length → ∀ b o, x.B = some ⟨b, o, none⟩ → b ∉ S)
theorem Mo.below {S : List Nat} {w w' : World} {l : List MV} (h : Mo S w l) (hb : Below w.heap.size w w') : Mo S w' l := fun x hx => ⟨(h x hx).1, (h x hx).2.1.below hb, (h x hx).2.2⟩
theorem Mo.set {S : List Nat} {w : World} {l : List MV} (h : Mo S w l) {P : Nat} (hP : P ∈ S) (j : Nat) (u : Value) : Mo S (w.setCell ⟨P, j, none⟩ u) l := fun x hx =>
  ⟨(h x hx).1, fun h0 => (h x hx).2.1.set P (fun b o e he => (h x hx).2.2 h0 b o e (he ▸ hP)) j u h0, (h x hx).2.2⟩
/-- a store into a row of the call's own -/
theorem own_put {w : World} {base g n cap size : Nat} {e : TypeId} {xs : List Value} (h : w.ownsRow base e size (.slice (some ⟨g, 0, none⟩) n cap) n xs) {i : Nat} (hi : i < n * size) (u : Value) : (w.setCell ⟨g, i, none⟩ u).ownsRow base e size (.slice (some ⟨g, 0, none⟩) n cap) n (xs.set i u) := by
  obtain ⟨hl, h2⟩ := h
  refine ⟨by simpa using hl, ?_⟩
  rcases h2 with ⟨hv, _⟩ | ⟨g', cap', cur, hv, hb, hh, hnc, hm, hcur, htake⟩
  · cases hv
  · injection hv with hv _ hcap
    injection hv with hv
    injection hv with hv
    subst hv; subst hcap
    refine Or.inr ⟨g, cap, cur.setIfInBounds i u, rfl, hb, ?_, hnc, hm, by simpa using hcur, ?_⟩
    · have hlt := lt_of_block hh
      have hh' : w.heap[g] = .cells cur e (0, 0) := by simpa [Array.getElem?_eq_getElem hlt] using hh
      show (w.heap.modify g _)[g]? = _
      rw [Array.getElem?_eq_getElem (by simpa using hlt), Array.getElem_modify_self, hh']
      rfl
    · rw [← htake]
      simp [List.take_set]
end Go.Proofs.Ytamajedopofcoaa
set_option linter.unusedVariables false
set_option linter.unusedSimpArgs false
namespace Go.Proofs.Ytamajedopofcoaa
open Go.RowKit
theorem info66 : (Try.prog.info? 66).map (fun i => (i.zero, i.size, i.bytes)) = some (some (.agg #[.int .i64 0, .int .i64 0, .int .i64 0, .slice none 0 0, .bool false]), 5, 56) := by kernel_rfl
set_option maxRecDepth 100000 in
set_option maxHeartbeats 16000000 in
theorem clone48 (A : Option Addr) (n c : Nat) (l : List MV) (w : World) (hl : l.length = n) (hb : Cv w A (flatM l)) (hn : n ≤ 1000000) (hc : n ≤ c) :
    Calls Try.prog 48 #[.slice A n c] w fun r w' => ∃ v, r = .returned v ∧ w'.ownsRow w.heap.size 66 5 v n (flatM l) ∧ Below w.heap.size w w' := by
  obtain ⟨i0, hi, hz0, hz1, hz2⟩ := info_parts info66
  have q := fun (w : World) (a : Option Addr) (n c : Nat) => Lib.run_eql_slice_nil (P := Try.prog) w 45 66 a n c 0 0 Try.underlying45
  have HL := Lib.hid hl
  have hll : (flatM l).length = n * 5 := by rw [flatM_len, hl]
  have HLL := Lib.hid hll
  cases A with
  | none =>
    have h0 : (flatM l) = [] := by
      rcases h : (flatM l) with _ | ⟨x, t⟩
      · rfl
      · obtain ⟨b, o, e, _⟩ := hb (by rw [h]; simp); cases e
    have hn0 : n = 0 := by rw [h0] at hll; simp at hll; omega
    have HH := Lib.hid h0
    have HN0 := Lib.hid hn0
    clear hl hll h0 hb
    go_enter Try.func48, Try.ntmps48
    go_wp2
    go_ret
    refine ⟨_, rfl, ?_, Below.refl _ _⟩
    rw [HH.out, HN0.out]
    exact World.ownsRow_nil _ _ _ _
  | some a =>
    have HN : Hid (∀ j v, (flatM l)[j]? = some v → w.cell? (a.add j) = some v) := Lib.hid (fun j v hj => by
      obtain ⟨b, o, e, _, _⟩ := id hb (Nat.lt_of_le_of_lt (Nat.zero_le _) (List.getElem?_eq_some_iff.1 hj).1)
      injection e with e; subst e
      exact hb.news j v hj)
    have HB : Hid (0 < (flatM l).length → a.block < w.heap.size) := Lib.hid (fun h0 => by
      obtain ⟨b, o, e, h, _⟩ := hb h0
      injection e with e; subst e
      exact h)
    clear hb hl hll
    go_enter Try.func48, Try.ntmps48
    go_wp2_with (at_builtin; go_loud (refine wpList_append_own _ rfl _ _ 45 rfl w.heap.size 66 i0 (.agg #[.int .i64 0, .int .i64 0, .int .i64 0, .slice none 0 0, .bool false]) 5 56 Try.underlying45 hi hz0 hz1 hz2 rfl (by decide) _ 0 [] rfl (World.ownsRow_made _ #[] 0 (Nat.le_refl _) (by simp [maxLen]) rfl) a n c (flatM l) rfl (by simpa using HLL.out) ?c1 ?c2 ?c3 ?c4 ?c5 ?_))
    case c1 =>
      intro j x hj
      exact (World.cell?_alloc_lt _ _ _ (by have := HB.out (Nat.lt_of_le_of_lt (Nat.zero_le _) (List.getElem?_eq_some_iff.1 hj).1); unfold Addr.add; split <;> simpa using this)).trans (HN.out j _ hj)
    case c2 => exact flatM_one_cell _
    case c3 => simp [maxLen]; omega
    case c4 => omega
    case c5 => simp
    · intro v' w3 hown' hgrow _
      have hb3 : Below w.heap.size w w3 := (show Below w.heap.size w _ from by go_grown).grown hgrow (by simp) (by intro k hk; simp [Value.ownBlock] at hk; omega)
      go_wp2
      go_ret
      exact ⟨v', rfl, by simpa using hown', hb3⟩
/-- the cells of each measure lie in blocks of the call's own, but not in the row's own block -/
def Mc (B : Nat) (g : Option Nat) (w : World) (l : List MV) : Prop := ∀ x ∈ l, x.m.Ce.length ≤ x.c ∧ Ik .i64 w x.B x.m.Ce ∧ (0 < x.m.Ce.length → ∀ b o, x.B = some ⟨b, o, none⟩ → B ≤ b ∧ some b ≠ g)
theorem Mc.below {B : Nat} {g : Option Nat} {w w' : World} {l : List MV} (h : Mc B g w l) (hb : Below w.heap.size w w') : Mc B g w' l := fun x hx => ⟨(h x hx).1, (h x hx).2.1.below hb, (h x hx).2.2⟩
theorem Ik.set0 {k : IntKind} {w : World} {A : Option Addr} {l : List Int} (h : Ik k w A l) (P : Nat) (hne : 0 < l.length → ∀ b o, A = some ⟨b, o, none⟩ → P ≠ b) (j : Nat) (u : Value) : Ik k (w.setCell ⟨P, j, none⟩ u) A l := fun h0 => h.set P (hne h0) j u h0
set_option maxRecDepth 100000 in
set_option maxHeartbeats 16000000 in
theorem copy39 (A : Option Addr) (n c : Nat) (l : List MV) (w : World) (hl : l.length = n) (hb : Cv w A (flatM l)) (hm : Mo [] w l) (hn : n ≤ 1000000) (hc : n ≤ c) (hs : ∀ x ∈ l, x.m.Ce.length ≤ 1000000) :
    Calls Try.prog 39 #[.slice A n c] w fun r w' => ∃ v l', r = .returned v ∧ l'.map MV.m = l.map MV.m ∧ w'.ownsRow w.heap.size 66 5 v n (flatM l') ∧ Mc w.heap.size v.ownBlock w' l' ∧ Below w.heap.size w w' := by
  have K := fun w h => clone48 A n c l w hl h hn hc
  replace K := Lib.hid K
  have HL := Lib.hid hl
  have HB := Lib.hid hb
  have HM := Lib.hid hm
  have HS := Lib.hid hs
  clear hl hb hm hs
  go_enter Try.func39, Try.ntmps39
  go_wp2_with fail
  refine (K.out _ HB.out).mono ?_
  rintro r w1 ⟨v, rfl, ho, hb1⟩
  by_cases h0 : n = 0
  · subst h0
    have hl0 : l = [] := List.eq_nil_of_length_eq_zero HL.out
    obtain ⟨A', c', rfl, _, _, _⟩ := own_slice ho
    have HO := Lib.hid ho
    have HG := Lib.hid hb1
    have HL0 := Lib.hid hl0
    clear ho hb1 hl0
    go_upto_region 3 with fail
    go_loopg [9] 0 (fun gk v wr => v = .int .i64 0 ∧ wr = w1)
    case atStart => exact ⟨rfl, rfl⟩
    case round =>
      obtain ⟨rfl, rfl⟩ := hrel
      go_wp2
      go_ret
      exact ⟨_, l, rfl, rfl, HO.out, (by rw [HL0.out]; intro x hx; cases hx), HG.out⟩
  · obtain ⟨g, cap, rfl, hgb, hgl, hcap, _, _⟩ := own_form ho (by omega)
    have HO := Lib.hid ho
    have HG := Lib.hid hb1
    clear ho hb1
    go_upto_region 3 with fail
    go_loopg [9] n (fun gk v wr => ∃ k : Nat, k ≤ n ∧ n - k ≤ gk ∧ v = .int .i64 k ∧ ∃ lk : List MV, wr.ownsRow w.heap.size 66 5 (.slice (some ⟨g, 0, none⟩) n cap) n (flatM lk) ∧ (lk.length = n ∧ lk.map MV.m = l.map MV.m) ∧ Hid (∀ (i : Nat) (x : MV), i < k → lk[i]? = some x → x.m.Ce.length ≤ x.c ∧ Ik .i64 wr x.B x.m.Ce ∧ (0 < x.m.Ce.length → ∀ b o, x.B = some ⟨b, o, none⟩ → w1.heap.size ≤ b)) ∧ Hid (∀ (i : Nat), k ≤ i → lk[i]? = l[i]?) ∧ Below w.heap.size w wr ∧ w1.heap.size ≤ wr.heap.size)
    case atStart => exact ⟨0, by omega, by omega, rfl, l, HO.out, ⟨HL.out, rfl⟩, Lib.hid (fun i x h => by omega), Lib.hid (fun i _ => rfl), HG.out, Nat.le_refl _⟩
    case round =>
      clear HO HG
      obtain ⟨k, hk, hgk, rfl, lk, ho, hlk, H1, H2, hg, hz⟩ := hrel
      have HLK := Lib.hid hlk
      have HO := Lib.hid ho
      have HG := Lib.hid hg
      clear hlk ho hg
      by_cases hlt : k < n
      · have hil : k < l.length := by rw [HL.out]; exact hlt
        obtain ⟨x, hx⟩ : ∃ x, l[k]? = some x := ⟨_, List.getElem?_eq_getElem hil⟩
        have hxk : lk[k]? = some x := (H2.out k (Nat.le_refl _)).trans hx
        obtain ⟨m1, m2, _⟩ := HM.out x (List.mem_of_getElem? hx)
        have hxs := HS.out x (List.mem_of_getElem? hx)
        obtain ⟨q, e⟩ := (own_cl HO.out (by omega)).2 (k * 5 + 3) _ ((flatM_get lk k x hxk 3 (by omega)).trans rfl)
        obtain ⟨nc, hnc⟩ : ∃ y, y = x.m.Ce.length := ⟨_, rfl⟩
        have K2 := fun w h => clone27 x.B nc x.c x.m.Ce w hnc.symm h (by omega) (by omega)
        rw [← hnc] at q
        have K2 := Lib.hid K2
        have HI := Lib.hid (m2.below HG.out)
        have HX := Lib.hid hxk
        have HX0 := Lib.hid hx
        have HNC := Lib.hid hnc
        have hgw : g < wr.heap.size := by omega
        clear hx hxk hil m1 m2 hxs hnc
        go_wp2_with fail
        refine (K2.out _ HI.out).mono ?_
        rintro r w2 ⟨v, rfl, hown, hb2⟩
        obtain ⟨B', c', rfl, hc', _, hi', hf', _⟩ := own_it (v := v) (by simpa [Own] using hown)
        have hq := ((bcell hb2).1 g (k * 5 + 3) hgw).trans q
        have he := ((bcell hb2).2 g (k * 5 + 3) hgw).trans e
        have hz2 := hb2.size
        have HO2 := Lib.hid (own_below HO.out hb2)
        have HG2 := Lib.hid (chain HG.out hb2)
        have HB2 := Lib.hid hb2
        have HI2 := Lib.hid hi'
        have HF2 := Lib.hid hf'
        clear q e hb2 hi' hf' hown HO HG HI K2
        go_wp2_with fail
        go_roundg (n - (k + 1))
        case measure => omega
        case rel =>
          have hki : k < lk.length := by rw [HLK.out.1]; exact hlt
          have hgB : ∀ b o, B' = some ⟨b, o, none⟩ → g ≠ b := fun b o e => by have := HF2.out b o e; omega
          have hput := own_put HO2.out (i := k * 5 + 3) (by omega) (.slice B' x.m.Ce.length c')
          rw [flatM_set lk k x ⟨x.m, B', c'⟩ 3 _ HX.out (by omega) rfl] at hput
          refine ⟨k + 1, by omega, by omega, by go_num, lk.set k ⟨x.m, B', c'⟩, hput, ⟨by rw [List.length_set]; exact HLK.out.1, ?_⟩, Lib.hid (fun i y hi hy => ?_), Lib.hid (fun i hi => ?_), HG2.out.setCell (p := ⟨g, k * 5 + 3, none⟩) hgb _, by simp; omega⟩
          · rw [← HLK.out.2, List.map_set]
            have : (List.map MV.m lk)[k]? = some x.m := by simp [HX.out]
            exact List.ext_getElem? (fun j => by
              rw [List.getElem?_set]
              split
              · rename_i hj; subst hj; rw [this]; simp [hki]
              · rfl)
          · rw [List.getElem?_set] at hy
            split at hy
            · obtain rfl := Option.some.inj hy
              exact ⟨hc', HI2.out.set g hgB _ _, fun _ b o e => by have := HF2.out b o e; omega⟩
            · rename_i hik
              obtain ⟨y1, y2, y3⟩ := H1.out i y (by omega) hy
              exact ⟨y1, (y2.below HB2.out).set0 g (fun h0 b o e => by have := y3 h0 b o e; omega) _ _, y3⟩
          · rw [List.getElem?_set, if_neg (by omega)]
            exact H2.out i (by omega)
      · obtain rfl : k = n := by omega
        have HMc : Hid (Mc w.heap.size (some g) wr lk) := Lib.hid (fun y hy => by
          obtain ⟨i, hi, rfl⟩ := List.mem_iff_getElem.1 hy
          obtain ⟨y1, y2, y3⟩ := H1.out i _ (by rw [HLK.out.1] at hi; exact hi) (List.getElem?_eq_getElem hi)
          exact ⟨y1, y2, fun h0 b o e => by have := y3 h0 b o e; exact ⟨by omega, fun e => by injection e with e; omega⟩⟩)
        go_wp2
        go_ret
        exact ⟨_, lk, rfl, HLK.out.2, HO.out, HMc.out, HG.out⟩
end Go.Proofs.Ytamajedopofcoaa
set_option linter.unusedVariables false
set_option linter.unusedSimpArgs false
namespace Go.Proofs.Ytamajedopofcoaa
open Go.RowKit
/-- a cell's number -/
def celB (x : Int) : Bool := decide (0 ≤ x) && decide (x < 1000)
theorem cell62 (x : Int) (w : World) : Calls Try.prog 62 #[.int .i64 x] w fun r w' => r = .returned (.bool (!celB x)) ∧ w = w' := by
  go_enter Try.func62, Try.ntmps62
  go_wp2
  all_goals
    first
    | (exfalso; omega)
    | (go_ret; refine ⟨ret_bool ?_, rfl⟩; rw [Bool.eq_iff_iff]; simp [celB] <;> omega)
def allE (l : List Int) : Bool := l.all celB
theorem allE_t {l : List Int} (h : ∀ i, i < l.length → celB (l.getD i 0) = true) : allE l = true := by
  unfold allE
  rw [List.all_eq_true]
  intro x hx
  obtain ⟨i, hi, rfl⟩ := List.mem_iff_getElem.1 hx
  have := h i hi
  simpa [List.getD, List.getElem?_eq_getElem hi] using this
theorem allE_f {l : List Int} {i : Nat} (hi : i < l.length) (h : celB (l.getD i 0) = false) : allE l = false := by
  unfold allE
  rw [List.all_eq_false]
  refine ⟨l.getD i 0, ?_, by rw [h]; decide⟩
  have : l.getD i 0 = l[i] := by simp [List.getD, List.getElem?_eq_getElem hi]
  rw [this]; exact List.getElem_mem hi
set_option maxRecDepth 100000 in
set_option maxHeartbeats 4000000 in
theorem index61e (A : Option Addr) (n c : Nat) (l : List Int) (w : World) (hl : l.length = n) (hb : Ik .i64 w A l) (hn : n ≤ 1000000) (hc : n ≤ c) :
    Calls Try.prog 61 #[.slice A n c, .func (.func 62) #[] #[]] w fun r w' => ∃ v : Int, r = .returned (.int .i64 v) ∧ decide (0 ≤ v) = !allE l ∧ w = w' := by
  have HL := Lib.hid hl
  have HB := Lib.hid hb
  clear hl hb
  go_enter Try.func61, Try.ntmps61
  go_wp2_with fail
  go_loopg [8] n (fun gk v wr => ∃ i : Nat, i ≤ n ∧ n - i ≤ gk ∧ v = .int .i64 i ∧ Hid (∀ j, j < i → celB (l.getD j 0) = true) ∧ wr = w)
  case atStart => exact ⟨0, by omega, by omega, rfl, Lib.hid (fun j h => by omega), rfl⟩
  case round =>
    obtain ⟨i, hi, hgk, rfl, HA, rfl⟩ := hrel
    by_cases hlt : i < n
    · obtain ⟨b, o, rfl, hbl⟩ := HB.out.addr (by rw [HL.out]; omega)
      obtain ⟨q1, hbl2⟩ := HB.out.at i (by rw [HL.out]; exact hlt)
      obtain ⟨x, hx⟩ : ∃ x, x = l.getD i 0 := ⟨_, rfl⟩
      rw [← hx] at q1
      have K := fun w => cell62 x w
      cases hp : celB x
      · rw [hp] at K
        replace K := Lib.hid K
        have HP := Lib.hid hp
        have HX := Lib.hid hx
        clear hp hx
        go_wp2_with fail
        refine (K.out _).mono ?_
        rintro r w1 ⟨rfl, rfl⟩
        go_wp2
        go_ret
        exact ⟨i, rfl, by rw [allE_f (i := i) (by rw [HL.out]; exact hlt) (by rw [← HX.out]; exact HP.out)]; simp, rfl⟩
      · rw [hp] at K
        replace K := Lib.hid K
        have HP := Lib.hid hp
        have HX := Lib.hid hx
        clear hp hx
        go_wp2_with fail
        refine (K.out _).mono ?_
        rintro r w1 ⟨rfl, rfl⟩
        go_wp2_with fail
        go_roundg (n - (i + 1))
        case measure => omega
        case rel =>
          refine ⟨i + 1, by omega, by omega, by go_num, Lib.hid (fun j h => ?_), rfl⟩
          by_cases hj : j = i
          · rw [hj, ← HX.out]; exact HP.out
          · exact HA.out j (by omega)
    · obtain rfl : i = n := by omega
      go_wp2
      go_ret
      exact ⟨-1, rfl, by rw [allE_t (fun j h => HA.out j (by rw [HL.out] at h; exact h))]; rfl, rfl⟩
theorem cont43e (A : Option Addr) (n c : Nat) (l : List Int) (w : World) (hl : l.length = n) (hb : Ik .i64 w A l) (hn : n ≤ 1000000) (hc : n ≤ c) :
    Calls Try.prog 43 #[.slice A n c, .func (.func 62) #[] #[]] w fun r w' => r = .returned (.bool (!allE l)) ∧ w = w' := by
  have K := fun w h => index61e A n c l w hl h hn hc
  replace K := Lib.hid K
  have HB := Lib.hid hb
  clear hl hb
  go_enter Try.func43, Try.ntmps43
  go_wp2_with fail
  refine (K.out _ HB.out).mono ?_
  rintro r w1 ⟨v, rfl, hv, rfl⟩
  have HV := Lib.hid hv
  clear hv
  go_wp2
  go_ret
  exact ⟨ret_bool HV.out, rfl⟩
/-- a valid measure -/
def mvB (m : MS) : Bool := decide (0 ≤ m.Ev) && decide (m.Ev < 16) && decide (1 ≤ m.Ey) && decide (m.Ey ≤ 1000) && decide (0 ≤ m.Co) && decide (m.Co < m.Ey) && decide (m.Ce.length ≤ 100) && allE m.Ce
theorem mvB_f {Ev Ey Co : Int} {n : Nat} {Ru : Bool} {l : List Int} (hl : l.length = n) (h : ¬ (0 ≤ Ev ∧ Ev < 16 ∧ 1 ≤ Ey ∧ Ey ≤ 1000 ∧ 0 ≤ Co ∧ Co < Ey ∧ n ≤ 100)) : mvB ⟨Ev, Ey, Co, l, Ru⟩ = false := by
  cases hh : mvB ⟨Ev, Ey, Co, l, Ru⟩
  · rfl
  · exfalso
    simp only [mvB, Bool.and_eq_true, decide_eq_true_eq] at hh
    omega
theorem mvB_t {Ev Ey Co : Int} {n : Nat} {Ru : Bool} {l : List Int} (hl : l.length = n) (h : 0 ≤ Ev ∧ Ev < 16 ∧ 1 ≤ Ey ∧ Ey ≤ 1000 ∧ 0 ≤ Co ∧ Co < Ey ∧ n ≤ 100) : mvB ⟨Ev, Ey, Co, l, Ru⟩ = allE l := by
  simp only [mvB]
  rw [hl]
  simp [h]
set_option maxRecDepth 100000 in
set_option maxHeartbeats 16000000 in
theorem mvalid50 (Ev Ey Co : Int) (B : Option Addr) (n c : Nat) (Ru : Bool) (l : List Int) (w : World) (hl : l.length = n) (hc : n ≤ c) (hb : Ik .i64 w B l) : Calls Try.prog 50 #[.agg #[.int .i64 Ev, .int .i64 Ey, .int .i64 Co, .slice B n c, .bool Ru]] w fun r w' => r = .returned (.bool (mvB ⟨Ev, Ey, Co, l, Ru⟩)) ∧ Below w.heap.size w w' := by
  by_cases hA : 0 ≤ Ev ∧ Ev < 16 ∧ 1 ≤ Ey ∧ Ey ≤ 1000 ∧ 0 ≤ Co ∧ Co < Ey ∧ n ≤ 100
  · rw [mvB_t hl hA]
    obtain ⟨h1, h2, h3, h4, h5, h6, h7⟩ := hA
    have K := fun w h => cont43e B n c l w hl h (by omega) hc
    replace K := Lib.hid K
    have HB := Lib.hid (hb.below (show Below w.heap.size w (w.alloc (.cells #[.int .i64 Ev, .int .i64 Ey, .int .i64 Co, .slice B n c, .bool Ru] 66)) from (Below.refl _ _).alloc (Nat.le_refl _) _))
    have HG := Lib.hid (show Below w.heap.size w (w.alloc (.cells #[.int .i64 Ev, .int .i64 Ey, .int .i64 Co, .slice B n c, .bool Ru] 66)) from (Below.refl _ _).alloc (Nat.le_refl _) _)
    have d7 : decide ((n : Int) ≤ 100) = true := by simp; omega
    clear hl hb
    go_enter Try.func50, Try.ntmps50
    go_wp2_with fail
    refine (K.out _ HB.out).mono ?_
    rintro r w1 ⟨rfl, rfl⟩
    go_wp2
    go_ret
    exact ⟨by simp, HG.out⟩
  · rw [mvB_f hl hA]
    clear hl hb
    go_enter Try.func50, Try.ntmps50
    go_wp2_with fail
    all_goals
      first
      | (exfalso; omega)
      | (go_wp2; go_ret; refine ⟨ret_bool ?_, by go_grown⟩; first | rfl | (rw [Bool.eq_iff_iff]; simp <;> omega))
end Go.Proofs.Ytamajedopofcoaa
set_option linter.unusedVariables false
set_option linter.unusedSimpArgs false
namespace Go.Proofs.Ytamajedopofcoaa
open Go.RowKit
set_option maxRecDepth 100000 in
set_option maxHeartbeats 16000000 in
theorem bad49 (Ev Ey Co : Int) (B : Option Addr) (n c : Nat) (Ru : Bool) (l : List Int) (w : World) (hl : l.length = n) (hc : n ≤ c) (hb : Ik .i64 w B l) : Calls Try.prog 49 #[.agg #[.int .i64 Ev, .int .i64 Ey, .int .i64 Co, .slice B n c, .bool Ru]] w fun r w' => r = .returned (.bool (!mvB ⟨Ev, Ey, Co, l, Ru⟩)) ∧ Below w.heap.size w w' := by
  have K := fun w h => mvalid50 Ev Ey Co B n c Ru l w hl hc h
  replace K := Lib.hid K
  have HB := Lib.hid (hb.below (show Below w.heap.size w (w.alloc (.cells #[.int .i64 Ev, .int .i64 Ey, .int .i64 Co, .slice B n c, .bool Ru] 66)) from (Below.refl _ _).alloc (Nat.le_refl _) _))
  have HG := Lib.hid (show Below w.heap.size w (w.alloc (.cells #[.int .i64 Ev, .int .i64 Ey, .int .i64 Co, .slice B n c, .bool Ru] 66)) from (Below.refl _ _).alloc (Nat.le_refl _) _)
  clear hl hb
  go_enter Try.func49, Try.ntmps49
  go_wp2_with fail
  refine (K.out _ HB.out).mono ?_
  rintro r w1 ⟨rfl, hb1⟩
  have HG1 := Lib.hid (chain HG.out hb1)
  clear hb1
  go_wp2
  go_ret
  exact ⟨rfl, HG1.out⟩
set_option maxRecDepth 100000 in
set_option maxHeartbeats 16000000 in
theorem bad38 (Ev Ey Co : Int) (B : Option Addr) (n c : Nat) (Ru : Bool) (l : List Int) (w : World) (hl : l.length = n) (hc : n ≤ c) (hb : Ik .i64 w B l) : Calls Try.prog 38 #[.agg #[.int .i64 Ev, .int .i64 Ey, .int .i64 Co, .slice B n c, .bool Ru]] w fun r w' => r = .returned (.bool (decide (120 < n))) ∧ Below w.heap.size w w' := by
  clear hl hb
  go_enter Try.func38, Try.ntmps38
  go_wp2
  go_ret
  exact ⟨ret_bool (by rw [Bool.eq_iff_iff]; simp <;> omega), by go_grown⟩
theorem any_f {α : Type} {l : List α} {p : α → Bool} (h : ∀ (i : Nat) (x : α), l[i]? = some x → p x = false) : l.any p = false := by
  rw [List.any_eq_false]
  intro x hx
  obtain ⟨i, hi, rfl⟩ := List.mem_iff_getElem.1 hx
  rw [h i _ (List.getElem?_eq_getElem hi)]; decide
theorem any_t {α : Type} {l : List α} {p : α → Bool} {i : Nat} {x : α} (hi : l[i]? = some x) (h : p x = true) : l.any p = true := by
  rw [List.any_eq_true]
  exact ⟨x, List.mem_of_getElem? hi, h⟩
/-- a measure that is bad; one that is too long -/
def bV (x : MV) : Bool := !mvB x.m
def bN (x : MV) : Bool := decide (120 < x.m.Ce.length)
set_option maxRecDepth 100000 in
set_option maxHeartbeats 16000000 in
theorem index47_49 (A : Option Addr) (n c : Nat) (l : List MV) (w : World) (hl : l.length = n) (hb : Cv w A (flatM l)) (hm : Mo [] w l) (hn : n ≤ 1000000) (hc : n ≤ c) :
    Calls Try.prog 47 #[.slice A n c, .func (.func 49) #[] #[]] w fun r w' => ∃ v : Int, r = .returned (.int .i64 v) ∧ decide (0 ≤ v) = l.any bV ∧ Below w.heap.size w w' := by
  have HL := Lib.hid hl
  have HB := Lib.hid hb
  have HM := Lib.hid hm
  clear hl hb hm
  go_enter Try.func47, Try.ntmps47
  go_wp2_with fail
  go_loopg [8] n (fun gk v wr => ∃ i : Nat, i ≤ n ∧ n - i ≤ gk ∧ v = .int .i64 i ∧ Hid (∀ (j : Nat) (p : MV), j < i → l[j]? = some p → bV p = false) ∧ Below w.heap.size w wr)
  case atStart => exact ⟨0, by omega, by omega, rfl, Lib.hid (fun j p h => by omega), Below.refl _ _⟩
  case round =>
    obtain ⟨i, hi, hgk, rfl, HA, hg⟩ := hrel
    by_cases hlt : i < n
    · have hil : i < l.length := by rw [HL.out]; exact hlt
      obtain ⟨x, hx⟩ : ∃ x, l[i]? = some x := ⟨_, List.getElem?_eq_getElem hil⟩
      obtain ⟨b, o, rfl, hbl, c0, c1, c2, c3, c4⟩ := (HB.out.below hg).five hx
      obtain ⟨m1, m2, _⟩ := HM.out x (List.mem_of_getElem? hx)
      have hbx : bV x = !mvB ⟨x.m.Ev, x.m.Ey, x.m.Co, x.m.Ce, x.m.Ru⟩ := rfl
      have K := fun w h => bad49 x.m.Ev x.m.Ey x.m.Co x.B x.m.Ce.length x.c x.m.Ru x.m.Ce w rfl m1 h
      rw [← hbx] at K
      obtain ⟨Ev, hEv⟩ : ∃ y, y = x.m.Ev := ⟨_, rfl⟩
      obtain ⟨Ey, hEy⟩ : ∃ y, y = x.m.Ey := ⟨_, rfl⟩
      obtain ⟨Co, hCo⟩ : ∃ y, y = x.m.Co := ⟨_, rfl⟩
      obtain ⟨Ru, hRu⟩ : ∃ y, y = x.m.Ru := ⟨_, rfl⟩
      obtain ⟨nc, hnc⟩ : ∃ y, y = x.m.Ce.length := ⟨_, rfl⟩
      rw [← hEv, ← hEy, ← hCo, ← hRu, ← hnc] at K
      rw [← hEv] at c0
      rw [← hEy] at c1
      rw [← hCo] at c2
      rw [← hnc] at c3
      rw [← hRu] at c4
      have HX := Lib.hid hx
      have HK := Lib.hid (m2.below hg)
      clear hx hil m2 m1 hbx hEv hEy hCo hRu hnc
      cases hq : bV x
      · rw [hq] at K
        replace K := Lib.hid K
        have HQ := Lib.hid hq
        clear hq
        go_wp2_with fail
        refine (K.out _ HK.out).mono ?_
        rintro r w1 ⟨rfl, hb1⟩
        have hg1 := chain hg hb1
        go_wp2_with fail
        go_roundg (n - (i + 1))
        case measure => omega
        case rel =>
          refine ⟨i + 1, by omega, by omega, by go_num, Lib.hid (fun j p h hj => ?_), hg1⟩
          by_cases hji : j = i
          · subst hji
            rw [HX.out] at hj
            obtain rfl := Option.some.inj hj
            exact HQ.out
          · exact HA.out j p (by omega) hj
      · rw [hq] at K
        replace K := Lib.hid K
        have HQ := Lib.hid hq
        clear hq
        go_wp2_with fail
        refine (K.out _ HK.out).mono ?_
        rintro r w1 ⟨rfl, hb1⟩
        have hg1 := chain hg hb1
        go_wp2
        go_ret
        exact ⟨i, rfl, by rw [any_t HX.out HQ.out]; simp, hg1⟩
    · obtain rfl : i = n := by omega
      go_wp2
      go_ret
      exact ⟨-1, rfl, by rw [any_f (fun j p hj => HA.out j p (by have := (List.getElem?_eq_some_iff.1 hj).1; rw [HL.out] at this; exact this) hj)]; rfl, hg⟩
theorem cont37_49 (A : Option Addr) (n c : Nat) (l : List MV) (w : World) (hl : l.length = n) (hb : Cv w A (flatM l)) (hm : Mo [] w l) (hn : n ≤ 1000000) (hc : n ≤ c) :
    Calls Try.prog 37 #[.slice A n c, .func (.func 49) #[] #[]] w fun r w' => r = .returned (.bool (l.any bV)) ∧ Below w.heap.size w w' := by
  have K := Lib.hid (index47_49 A n c l w hl hb hm hn hc)
  clear hl hb hm
  go_enter Try.func37, Try.ntmps37
  go_wp2_with fail
  refine K.out.mono ?_
  rintro r w1 ⟨v, rfl, hv, hb1⟩
  have HV := Lib.hid hv
  clear hv
  go_wp2
  go_ret
  exact ⟨ret_bool HV.out, hb1⟩
set_option maxRecDepth 100000 in
set_option maxHeartbeats 16000000 in
theorem index47_38 (A : Option Addr) (n c : Nat) (l : List MV) (w : World) (hl : l.length = n) (hb : Cv w A (flatM l)) (hm : Mo [] w l) (hn : n ≤ 1000000) (hc : n ≤ c) :
    Calls Try.prog 47 #[.slice A n c, .func (.func 38) #[] #[]] w fun r w' => ∃ v : Int, r = .returned (.int .i64 v) ∧ decide (0 ≤ v) = l.any bN ∧ Below w.heap.size w w' := by
  have HL := Lib.hid hl
  have HB := Lib.hid hb
  have HM := Lib.hid hm
  clear hl hb hm
  go_enter Try.func47, Try.ntmps47
  go_wp2_with fail
  go_loopg [8] n (fun gk v wr => ∃ i : Nat, i ≤ n ∧ n - i ≤ gk ∧ v = .int .i64 i ∧ Hid (∀ (j : Nat) (p : MV), j < i → l[j]? = some p → bN p = false) ∧ Below w.heap.size w wr)
  case atStart => exact ⟨0, by omega, by omega, rfl, Lib.hid (fun j p h => by omega), Below.refl _ _⟩
  case round =>
    obtain ⟨i, hi, hgk, rfl, HA, hg⟩ := hrel
    by_cases hlt : i < n
    · have hil : i < l.length := by rw [HL.out]; exact hlt
      obtain ⟨x, hx⟩ : ∃ x, l[i]? = some x := ⟨_, List.getElem?_eq_getElem hil⟩
      obtain ⟨b, o, rfl, hbl, c0, c1, c2, c3, c4⟩ := (HB.out.below hg).five hx
      obtain ⟨m1, m2, _⟩ := HM.out x (List.mem_of_getElem? hx)
      have hbx : bN x = decide (120 < x.m.Ce.length) := rfl
      have K := fun w h => bad38 x.m.Ev x.m.Ey x.m.Co x.B x.m.Ce.length x.c x.m.Ru x.m.Ce w rfl m1 h
      rw [← hbx] at K
      obtain ⟨Ev, hEv⟩ : ∃ y, y = x.m.Ev := ⟨_, rfl⟩
      obtain ⟨Ey, hEy⟩ : ∃ y, y = x.m.Ey := ⟨_, rfl⟩
      obtain ⟨Co, hCo⟩ : ∃ y, y = x.m.Co := ⟨_, rfl⟩
      obtain ⟨Ru, hRu⟩ : ∃ y, y = x.m.Ru := ⟨_, rfl⟩
      obtain ⟨nc, hnc⟩ : ∃ y, y = x.m.Ce.length := ⟨_, rfl⟩
      rw [← hEv, ← hEy, ← hCo, ← hRu, ← hnc] at K
      rw [← hEv] at c0
      rw [← hEy] at c1
      rw [← hCo] at c2
      rw [← hnc] at c3
      rw [← hRu] at c4
      have HX := Lib.hid hx
      have HK := Lib.hid (m2.below hg)
      clear hx hil m2 m1 hbx hEv hEy hCo hRu hnc
      cases hq : bN x
      · rw [hq] at K
        replace K := Lib.hid K
        have HQ := Lib.hid hq
        clear hq
        go_wp2_with fail
        refine (K.out _ HK.out).mono ?_
        rintro r w1 ⟨rfl, hb1⟩
        have hg1 := chain hg hb1
        go_wp2_with fail
        go_roundg (n - (i + 1))
        case measure => omega
        case rel =>
          refine ⟨i + 1, by omega, by omega, by go_num, Lib.hid (fun j p h hj => ?_), hg1⟩
          by_cases hji : j = i
          · subst hji
            rw [HX.out] at hj
            obtain rfl := Option.some.inj hj
            exact HQ.out
          · exact HA.out j p (by omega) hj
      · rw [hq] at K
        replace K := Lib.hid K
        have HQ := Lib.hid hq
        clear hq
        go_wp2_with fail
        refine (K.out _ HK.out).mono ?_
        rintro r w1 ⟨rfl, hb1⟩
        have hg1 := chain hg hb1
        go_wp2
        go_ret
        exact ⟨i, rfl, by rw [any_t HX.out HQ.out]; simp, hg1⟩
    · obtain rfl : i = n := by omega
      go_wp2
      go_ret
      exact ⟨-1, rfl, by rw [any_f (fun j p hj => HA.out j p (by have := (List.getElem?_eq_some_iff.1 hj).1; rw [HL.out] at this; exact this) hj)]; rfl, hg⟩
theorem cont37_38 (A : Option Addr) (n c : Nat) (l : List MV) (w : World) (hl : l.length = n) (hb : Cv w A (flatM l)) (hm : Mo [] w l) (hn : n ≤ 1000000) (hc : n ≤ c) :
    Calls Try.prog 37 #[.slice A n c, .func (.func 38) #[] #[]] w fun r w' => r = .returned (.bool (l.any bN)) ∧ Below w.heap.size w w' := by
  have K := Lib.hid (index47_38 A n c l w hl hb hm hn hc)
  clear hl hb hm
  go_enter Try.func37, Try.ntmps37
  go_wp2_with fail
  refine K.out.mono ?_
  rintro r w1 ⟨v, rfl, hv, hb1⟩
  have HV := Lib.hid hv
  clear hv
  go_wp2
  go_ret
  exact ⟨ret_bool HV.out, hb1⟩
set_option maxRecDepth 100000 in
set_option maxHeartbeats 16000000 in
theorem meas40 (A : Option Addr) (n c : Nat) (l : List MV) (w : World) (hl : l.length = n) (hb : Cv w A (flatM l)) (hm : Mo [] w l) (hc : n ≤ c) :
    Calls Try.prog 40 #[.slice A n c] w fun r w' => r = .returned (.bool (decide (n ≤ 8) && !l.any bV)) ∧ Below w.heap.size w w' := by
  by_cases hn : n ≤ 8
  · have K := Lib.hid (cont37_49 A n c l w hl hb hm (by omega) hc)
    have d : decide ((n : Int) ≤ 8) = true := by simp; omega
    rw [show decide (n ≤ 8) = true by simp; omega]
    generalize l.any bV = q at K ⊢
    clear hl hb hm
    go_enter Try.func40, Try.ntmps40
    go_wp2_with fail
    refine K.out.mono ?_
    rintro r w1 ⟨rfl, hb1⟩
    go_wp2
    go_ret
    exact ⟨by simp, hb1⟩
  · have d : decide ((n : Int) ≤ 8) = false := by simp; omega
    rw [show decide (n ≤ 8) = false by simp; omega]
    clear hl hb hm
    go_enter Try.func40, Try.ntmps40
    go_wp2
    go_ret
    exact ⟨by simp, Below.refl _ _⟩
set_option maxRecDepth 100000 in
set_option maxHeartbeats 16000000 in
theorem many21 (A : Option Addr) (n c : Nat) (l : List MV) (w : World) (hl : l.length = n) (hb : Cv w A (flatM l)) (hm : Mo [] w l) (hc : n ≤ c) :
    Calls Try.prog 21 #[.slice A n c] w fun r w' => r = .returned (.bool (decide (12 < n) || l.any bN)) ∧ Below w.heap.size w w' := by
  by_cases hn : n ≤ 12
  · have K := Lib.hid (cont37_38 A n c l w hl hb hm (by omega) hc)
    have d : decide (12 < (n : Int)) = false := by simp; omega
    rw [show decide (12 < n) = false by simp; omega]
    generalize l.any bN = q at K ⊢
    clear hl hb hm
    go_enter Try.func21, Try.ntmps21
    go_wp2_with fail
    refine K.out.mono ?_
    rintro r w1 ⟨rfl, hb1⟩
    go_wp2
    go_ret
    exact ⟨by simp, hb1⟩
  · have d : decide (12 < (n : Int)) = true := by simp; omega
    rw [show decide (12 < n) = true by simp; omega]
    clear hl hb hm
    go_enter Try.func21, Try.ntmps21
    go_wp2
    go_ret
    exact ⟨by simp, Below.refl _ _⟩
end Go.Proofs.Ytamajedopofcoaa
set_option linter.unusedVariables false
set_option linter.unusedSimpArgs false
namespace Go.Proofs.Ytamajedopofcoaa
open Go.RowKit
set_option maxRecDepth 100000 in
set_option maxHeartbeats 16000000 in
theorem rmeas60 (Ev Ey Co : Int) (B : Option Addr) (n c : Nat) (Ru : Bool) (l : List Int) (w : World) (hl : l.length = n) (hc : n ≤ c) (hb : Ik .i64 w B l) : Calls Try.prog 60 #[.agg #[.int .i64 Ev, .int .i64 Ey, .int .i64 Co, .slice B n c, .bool Ru]] w fun r w' => r = .returned (.bool (mvB ⟨Ev, Ey, Co, l, Ru⟩)) ∧ Below w.heap.size w w' := by
  by_cases hA : 0 ≤ Ev ∧ Ev < 16 ∧ 1 ≤ Ey ∧ Ey ≤ 1000 ∧ 0 ≤ Co ∧ Co < Ey ∧ n ≤ 100
  · rw [mvB_t hl hA]
    obtain ⟨h1, h2, h3, h4, h5, h6, h7⟩ := hA
    have HL := Lib.hid hl
    have HB := Lib.hid (hb.below (show Below w.heap.size w (w.alloc (.cells #[.int .i64 Ev, .int .i64 Ey, .int .i64 Co, .slice B n c, .bool Ru] 66)) from (Below.refl _ _).alloc (Nat.le_refl _) _))
    have HG := Lib.hid (show Below w.heap.size w (w.alloc (.cells #[.int .i64 Ev, .int .i64 Ey, .int .i64 Co, .slice B n c, .bool Ru] 66)) from (Below.refl _ _).alloc (Nat.le_refl _) _)
    have HC := Lib.hid (Cl.new (w := w) rfl [.int .i64 Ev, .int .i64 Ey, .int .i64 Co, .slice B n c, .bool Ru] 66)
    have d7 : decide (100 < (n : Int)) = false := by simp; omega
    clear hl hb
    go_enter Try.func60, Try.ntmps60
    go_upto_region 4 with fail
    go_loopg [3] n (fun gk v wr => ∃ i : Nat, i ≤ n ∧ n - i ≤ gk ∧ v = .int .i64 i ∧ Hid (∀ j, j < i → celB (l.getD j 0) = true) ∧ Cl w.heap.size wr [.int .i64 Ev, .int .i64 Ey, .int .i64 Co, .slice B n c, .bool Ru] ∧ Ik .i64 wr B l ∧ Below w.heap.size w wr)
    case atStart => exact ⟨0, by omega, by omega, rfl, Lib.hid (fun j h => by omega), HC.out, HB.out, HG.out⟩
    case round =>
      clear HC HB HG
      obtain ⟨i, hi, hgk, rfl, HA, hC, hB, hG⟩ := hrel
      have HC := Lib.hid hC
      have HB := Lib.hid hB
      have HG := Lib.hid hG
      clear hC hB hG
      have p0 := HC.out.c 0 rfl; have p1 := HC.out.c 1 rfl; have p2 := HC.out.c 2 rfl; have p3 := HC.out.c 3 rfl; have p4 := HC.out.c 4 rfl
      have zp := HC.out.1
      by_cases hlt : i < n
      · obtain ⟨b, o, rfl, hbl⟩ := HB.out.addr (by rw [HL.out]; omega)
        have q1 := (HB.out.at i (by rw [HL.out]; exact hlt)).1
        obtain ⟨x, hx⟩ : ∃ x, x = l.getD i 0 := ⟨_, rfl⟩
        rw [← hx] at q1
        have HX := Lib.hid hx
        clear hx
        by_cases hcx : 0 ≤ x ∧ x < 1000
        · obtain ⟨e1, e2⟩ := hcx
          go_wp2
          go_roundg (n - (i + 1))
          case measure => omega
          case rel =>
            refine ⟨i + 1, by omega, by omega, by go_num, Lib.hid (fun j h => ?_), HC.out, HB.out, HG.out⟩
            by_cases hj : j = i
            · rw [hj, ← HX.out]; simp [celB, e1, e2]
            · exact HA.out j (by omega)
        · have hf : celB x = false := by
            cases hh : celB x
            · rfl
            · exfalso; simp only [celB, Bool.and_eq_true, decide_eq_true_eq] at hh; omega
          have HF := Lib.hid hf
          clear hf
          have hcc : x < 0 ∨ 1000 ≤ x := by omega
          clear hcx
          rcases hcc with hcc | hcc
          · go_wp2
            go_ret
            exact ⟨by rw [allE_f (i := i) (by rw [HL.out]; exact hlt) (by rw [← HX.out]; exact HF.out)]; rfl, HG.out⟩
          · have hc0 : ¬ x < 0 := by omega
            go_wp2
            go_ret
            exact ⟨by rw [allE_f (i := i) (by rw [HL.out]; exact hlt) (by rw [← HX.out]; exact HF.out)]; rfl, HG.out⟩
      · obtain rfl : i = n := by omega
        go_wp2
        go_ret
        exact ⟨by rw [allE_t (fun j h => HA.out j (by rw [HL.out] at h; exact h))]; rfl, HG.out⟩
  · rw [mvB_f hl hA]
    clear hl hb
    go_enter Try.func60, Try.ntmps60
    go_upto_region 4 with fail
    all_goals
      first
      | (exfalso; omega)
      | (go_wp2; go_ret; refine ⟨ret_bool ?_, by go_grown⟩; first | rfl | (rw [Bool.eq_iff_iff]; simp <;> omega))
set_option maxRecDepth 100000 in
set_option maxHeartbeats 16000000 in
theorem rmeas55 (A : Option Addr) (n c : Nat) (l : List MV) (w : World) (hl : l.length = n) (hb : Cv w A (flatM l)) (hm : Mo [] w l) (hc : n ≤ c) :
    Calls Try.prog 55 #[.slice A n c] w fun r w' => r = .returned (.bool (decide (n ≤ 8) && !l.any bV)) ∧ Below w.heap.size w w' := by
  by_cases hn : n ≤ 8
  · rw [show decide (n ≤ 8) = true by simp; omega]
    have d : decide (8 < (n : Int)) = false := by simp; omega
    have HL := Lib.hid hl
    have HB := Lib.hid hb
    have HM := Lib.hid hm
    clear hl hb hm
    go_enter Try.func55, Try.ntmps55
    go_upto_region 4 with fail
    go_loopg [3] n (fun gk v wr => ∃ i : Nat, i ≤ n ∧ n - i ≤ gk ∧ v = .int .i64 i ∧ Hid (∀ (j : Nat) (p : MV), j < i → l[j]? = some p → bV p = false) ∧ Below w.heap.size w wr)
    case atStart => exact ⟨0, by omega, by omega, rfl, Lib.hid (fun j p h => by omega), Below.refl _ _⟩
    case round =>
      obtain ⟨i, hi, hgk, rfl, HA, hg⟩ := hrel
      by_cases hlt : i < n
      · have hil : i < l.length := by rw [HL.out]; exact hlt
        obtain ⟨x, hx⟩ : ∃ x, l[i]? = some x := ⟨_, List.getElem?_eq_getElem hil⟩
        obtain ⟨b, o, rfl, hbl, c0, c1, c2, c3, c4⟩ := (HB.out.below hg).five hx
        obtain ⟨m1, m2, _⟩ := HM.out x (List.mem_of_getElem? hx)
        have hbx : mvB ⟨x.m.Ev, x.m.Ey, x.m.Co, x.m.Ce, x.m.Ru⟩ = !bV x := by unfold bV; simp
        have K := fun w h => rmeas60 x.m.Ev x.m.Ey x.m.Co x.B x.m.Ce.length x.c x.m.Ru x.m.Ce w rfl m1 h
        rw [hbx] at K
        obtain ⟨Ev, hEv⟩ : ∃ y, y = x.m.Ev := ⟨_, rfl⟩
        obtain ⟨Ey, hEy⟩ : ∃ y, y = x.m.Ey := ⟨_, rfl⟩
        obtain ⟨Co, hCo⟩ : ∃ y, y = x.m.Co := ⟨_, rfl⟩
        obtain ⟨Ru, hRu⟩ : ∃ y, y = x.m.Ru := ⟨_, rfl⟩
        obtain ⟨nc, hnc⟩ : ∃ y, y = x.m.Ce.length := ⟨_, rfl⟩
        rw [← hEv, ← hEy, ← hCo, ← hRu, ← hnc] at K
        rw [← hEv] at c0
        rw [← hEy] at c1
        rw [← hCo] at c2
        rw [← hnc] at c3
        rw [← hRu] at c4
        have HX := Lib.hid hx
        have HK := Lib.hid (m2.below hg)
        clear hx hil m2 m1 hbx hEv hEy hCo hRu hnc
        cases hq : bV x
        · rw [hq] at K
          replace K := Lib.hid K
          have HQ := Lib.hid hq
          clear hq
          go_wp2_with fail
          refine (K.out _ HK.out).mono ?_
          rintro r w1 ⟨rfl, hb1⟩
          have hg1 := chain hg hb1
          go_wp2_with fail
          go_roundg (n - (i + 1))
          case measure => omega
          case rel =>
            refine ⟨i + 1, by omega, by omega, by go_num, Lib.hid (fun j p h hj => ?_), hg1⟩
            by_cases hji : j = i
            · subst hji
              rw [HX.out] at hj
              obtain rfl := Option.some.inj hj
              exact HQ.out
            · exact HA.out j p (by omega) hj
        · rw [hq] at K
          replace K := Lib.hid K
          have HQ := Lib.hid hq
          clear hq
          go_wp2_with fail
          refine (K.out _ HK.out).mono ?_
          rintro r w1 ⟨rfl, hb1⟩
          have hg1 := chain hg hb1
          go_wp2
          go_ret
          exact ⟨by rw [any_t HX.out HQ.out]; simp, hg1⟩
      · obtain rfl : i = n := by omega
        go_wp2
        go_ret
        exact ⟨by rw [any_f (fun j p hj => HA.out j p (by have := (List.getElem?_eq_some_iff.1 hj).1; rw [HL.out] at this; exact this) hj)]; rfl, hg⟩
  · rw [show decide (n ≤ 8) = false by simp; omega]
    have d : decide (8 < (n : Int)) = true := by simp; omega
    clear hl hb hm
    go_enter Try.func55, Try.ntmps55
    go_wp2
    go_ret
    exact ⟨by simp, Below.refl _ _⟩
end Go.Proofs.Ytamajedopofcoaa
set_option linter.unusedVariables false
set_option linter.unusedSimpArgs false
namespace Go.Proofs.Ytamajedopofcoaa
open Go.RowKit
/-- all blocks but g are as they were -/
theorem GB.refl (w : World) (g : Option Nat) : w.grownBy w g := ⟨rfl, rfl, rfl, Nat.le_refl _, fun _ _ _ => rfl⟩
theorem GB.trans {w w1 w2 : World} {g : Option Nat} (h : w.grownBy w1 g) (k : w1.grownBy w2 g) : w.grownBy w2 g :=
  ⟨k.os.trans h.os, k.tape.trans h.tape, k.output.trans h.output, Nat.le_trans h.size k.size, fun i hi hn => (k.block i (Nat.lt_of_lt_of_le hi h.size) hn).trans (h.block i hi hn)⟩
theorem GB.below {w w1 w2 : World} {g : Option Nat} (h : w.grownBy w1 g) (hb : Below w.heap.size w1 w2) : w.grownBy w2 g :=
  ⟨hb.os.trans h.os, hb.tape.trans h.tape, hb.output.trans h.output, Nat.le_trans h.size hb.size, fun i hi hn => (hb.block i hi).trans (h.block i hi hn)⟩
theorem GB.of {w w1 : World} {g : Option Nat} (hb : Below w.heap.size w w1) : w.grownBy w1 g := GB.below (GB.refl w g) hb
theorem GB.set {w w1 : World} {g : Nat} (h : w.grownBy w1 (some g)) (j : Nat) (u : Value) : w.grownBy (w1.setCell ⟨g, j, none⟩ u) (some g) :=
  ⟨h.os, h.tape, h.output, by simpa using h.size, fun i hi hn => (Below.heap_setCell w1 ⟨g, j, none⟩ u i (fun e => hn (by simp [e]))).trans (h.block i hi hn)⟩
theorem GB.cell {w w1 : World} {g : Option Nat} (h : w.grownBy w1 g) {b : Nat} (hb : b < w.heap.size) (hn : some b ≠ g) (o : Nat) : w1.cell? ⟨b, o, none⟩ = w.cell? ⟨b, o, none⟩ ∧ w1.frozen? ⟨b, o, none⟩ = w.frozen? ⟨b, o, none⟩ := grown_cell h hb hn o
theorem Cl.gb {w w1 : World} {g : Option Nat} (h : w.grownBy w1 g) {P : Nat} {vs : List Value} (hP : Cl P w vs) (hn : some P ≠ g) : Cl P w1 vs :=
  ⟨Nat.lt_of_lt_of_le hP.1 h.size, fun j v e => ⟨(GB.cell h hP.1 hn j).1.trans (hP.2 j v e).1, (GB.cell h hP.1 hn j).2.trans (hP.2 j v e).2⟩⟩
theorem Ik.gb {w w1 : World} {g : Option Nat} (h : w.grownBy w1 g) {k : IntKind} {A : Option Addr} {l : List Int} (hA : Ik k w A l) (hn : 0 < l.length → ∀ b o, A = some ⟨b, o, none⟩ → some b ≠ g) : Ik k w1 A l := fun h0 => by
  obtain ⟨b, o, rfl, hbl, hc⟩ := hA h0
  exact ⟨b, o, rfl, Nat.lt_of_lt_of_le hbl h.size, fun i x hx => (GB.cell h hbl (hn h0 b o rfl) (o + i)).1.trans (hc i x hx)⟩
/-- measures in memory, apart from the blocks S -/
def LO (S : List Nat) (w : World) (A : Option Addr) (ms : List MS) (c : Nat) : Prop :=
  ∃ l' : List MV, l'.map MV.m = ms ∧ ms.length ≤ c ∧ Cv w A (flatM l') ∧ (0 < ms.length → ∀ b o, A = some ⟨b, o, none⟩ → b ∉ S) ∧ Mo S w l'
theorem own_cv {w : World} {base n size cap : Nat} {e : TypeId} {A : Option Addr} {xs : List Value} (h : w.ownsRow base e size (.slice A n cap) n xs) : Cv w A xs := fun h0 => by
  obtain ⟨A', cap', hv, hA, _, _⟩ := own_slice h
  injection hv with hv
  subst hv
  have h1 := h.1
  have hn : 0 < n := by
    rcases Nat.eq_zero_or_pos n with hz | hz
    · rw [hz] at h1; simp at h1; rw [h1] at h0; simp at h0
    · exact hz
  obtain ⟨g, rfl, _, hgl, hc⟩ := hA hn
  exact ⟨g, 0, rfl, hgl, fun i v hv => by rw [Nat.zero_add]; exact hc i v hv⟩
theorem Mo.sub {S S' : List Nat} {w : World} {l : List MV} (h : Mo S w l) (hs : ∀ s ∈ S', s ∈ S) : Mo S' w l := fun x hx => ⟨(h x hx).1, (h x hx).2.1, fun h0 b o e hb => (h x hx).2.2 h0 b o e (hs b hb)⟩
theorem Mo.gb {S : List Nat} {w w1 : World} {g : Nat} {l : List MV} (h : Mo S w l) (hg : g ∈ S) (hb : w.grownBy w1 (some g)) : Mo S w1 l := fun x hx =>
  ⟨(h x hx).1, (h x hx).2.1.gb hb (fun h0 b o e he => (h x hx).2.2 h0 b o e (by injection he with he; rw [he]; exact hg)), (h x hx).2.2⟩
end Go.Proofs.Ytamajedopofcoaa
