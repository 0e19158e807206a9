/-
  The contract of the reference's Copy; append to rows of the call's own. No condition but the slices' shape.
-/
import Derived.Test.YtamajedopofcoaaCopy
set_option linter.unusedVariables false
set_option linter.unusedSimpArgs false
namespace Go.Proofs.Ytamajedopofcoaa
open Go.RowKit
theorem Ik.far {k : IntKind} {w w' : World} {A : Option Addr} {l : List Int} {P : Nat} (h : Ik k w A l) (h' : Ik k w' A l) (hP : w.heap.size ≤ P) (j : Nat) (u : Value) : Ik k (w'.setCell ⟨P, j, none⟩ u) A l := fun h0 => by
  obtain ⟨b, o, e, hb, _⟩ := h h0
  exact (h'.set P (fun b' o' e' => by rw [e] at e'; injection e' with e'; injection e' with e1 _; omega) j u) h0
theorem none_it {w : World} {base n c : Nat} {v : Value} {xs : List Value} (t : TypeId) (hown : w.ownsRow base 3 1 v n xs) :
    (Builtin.append_ #[22, 22] t #[v, .slice none 0 c]).run Try.prog w = .ok v w := by
  obtain ⟨i, hi, _⟩ := info_parts info3
  obtain ⟨_, hf⟩ := hown
  rcases hf with ⟨rfl, rfl⟩ | ⟨g, cap, cur, rfl, _, _, hle, _⟩
  · simp [Builtin.append_, run_underlying Try.underlying22, sizeOf, typeInfo, hi, Builtin.lenOf, Builtin.firstCells]
  · simp [Builtin.append_, run_underlying Try.underlying22, sizeOf, typeInfo, hi, Builtin.lenOf, Builtin.firstCells, hle, storeCells]
theorem app_it {ops : Array Oper} {rest : List Oper} {o : Oper} {a : Act} {Q : Exit → Act → World → Prop} {w : World} (hgd : o.guard = none) (s x : Operand)
    (ho : o.op = .call { callee := .builtin .append, args := #[s, x], argTypes := #[22, 22] }) (base n : Nat) (v : Value) (xs : List Value) (hs : a.eval s = v) (hown : w.ownsRow base 3 1 v n xs)
    (A : Option Addr) (m c : Nat) (l : List Int) (hx : a.eval x = .slice A m c) (hl : l.length = m) (hb : Ik .i64 w A l) (hsm : n + m ≤ 1000000) (hbase : base ≤ w.heap.size)
    (h : ∀ v' w', w'.ownsRow base 3 1 v' (n + m) (xs ++ l.map (Value.int .i64)) → Below base w w' → (∀ b, b < w.heap.size → some b ≠ v.ownBlock → w'.heap[b]? = w.heap[b]?) → wpList Try.prog ops Q rest (a.put o.dst v') w') : wpList Try.prog ops Q (o :: rest) a w := by
  obtain ⟨i0, hi, hz0, hz1, hz2⟩ := info_parts info3
  have hll : l.length = m * 1 := by rw [Nat.mul_one]; exact hl
  cases A with
  | none =>
    have h0 : l = [] := by
      rcases hq : l with _ | ⟨y, t⟩
      · rfl
      · obtain ⟨b, q, e, _⟩ := hb (by rw [hq]; simp); cases e
    obtain rfl : m = 0 := by rw [h0] at hll; simp at hll; omega
    refine wpList_plain hgd fun K hK => ?_
    have hrun := none_it (c := c) o.type hown
    unfold Oper.wp
    simp [execOp, ho, resolve, invoke, builtin, hs, hx, hrun, Result.andThen]
    exact hK _ _ (h v w (by rw [h0]; simpa using hown) (Below.refl _ _) (fun _ _ _ => rfl))
  | some ad =>
    refine wpList_append_own w hgd s x 22 ho base 3 i0 (.int .i64 0) 1 8 Try.underlying22 hi hz0 hz1 hz2 rfl (by decide) v n xs hs hown ad m c (l.map (Value.int .i64)) hx (by simpa using hll) (fun j u hj => ?_) (one_int _ _) (by unfold maxLen; omega) (by omega) hbase
      (fun v' w' h1 h2 _ => h v' w' h1 (grown_below hown h2 hbase) (fun b hlt hne => h2.block b hlt hne))
    have h0 : 0 < l.length := by
      have := (List.getElem?_eq_some_iff.1 hj).1
      simp at this; omega
    obtain ⟨b, q, e, _, _⟩ := id hb h0
    injection e with e; subst e
    exact hb.news j u hj
theorem none_ch {w : World} {base n c : Nat} {v : Value} {xs : List Value} (t : TypeId) (hown : w.ownsRow base 56 2 v n xs) :
    (Builtin.append_ #[23, 23] t #[v, .slice none 0 c]).run Try.prog w = .ok v w := by
  obtain ⟨i, hi, _⟩ := info_parts info56
  obtain ⟨_, hf⟩ := hown
  rcases hf with ⟨rfl, rfl⟩ | ⟨g, cap, cur, rfl, _, _, hle, _⟩
  · simp [Builtin.append_, run_underlying Try.underlying23, sizeOf, typeInfo, hi, Builtin.lenOf, Builtin.firstCells]
  · simp [Builtin.append_, run_underlying Try.underlying23, sizeOf, typeInfo, hi, Builtin.lenOf, Builtin.firstCells, hle, storeCells]
theorem app_ch {ops : Array Oper} {rest : List Oper} {o : Oper} {a : Act} {Q : Exit → Act → World → Prop} {w : World} (hgd : o.guard = none) (s x : Operand)
    (ho : o.op = .call { callee := .builtin .append, args := #[s, x], argTypes := #[23, 23] }) (base n : Nat) (v : Value) (xs : List Value) (hs : a.eval s = v) (hown : w.ownsRow base 56 2 v n xs)
    (A : Option Addr) (m c : Nat) (l : List (Int × Int)) (hx : a.eval x = .slice A m c) (hl : l.length = m) (hb : Ik .i64 w A (flat l)) (hsm : n + m ≤ 1000000) (hbase : base ≤ w.heap.size)
    (h : ∀ v' w', w'.ownsRow base 56 2 v' (n + m) (xs ++ (flat l).map (Value.int .i64)) → Below base w w' → (∀ b, b < w.heap.size → some b ≠ v.ownBlock → w'.heap[b]? = w.heap[b]?) → wpList Try.prog ops Q rest (a.put o.dst v') w') : wpList Try.prog ops Q (o :: rest) a w := by
  obtain ⟨i0, hi, hz0, hz1, hz2⟩ := info_parts info56
  have hll : (flat l).length = m * 2 := by rw [flat_len, hl]; omega
  cases A with
  | none =>
    have h0 : (flat l) = [] := by
      rcases hq : (flat l) with _ | ⟨y, t⟩
      · rfl
      · obtain ⟨b, q, e, _⟩ := hb (by rw [hq]; simp); cases e
    obtain rfl : m = 0 := by rw [h0] at hll; simp at hll; omega
    refine wpList_plain hgd fun K hK => ?_
    have hrun := none_ch (c := c) o.type hown
    unfold Oper.wp
    simp [execOp, ho, resolve, invoke, builtin, hs, hx, hrun, Result.andThen]
    exact hK _ _ (h v w (by rw [h0]; simpa using hown) (Below.refl _ _) (fun _ _ _ => rfl))
  | some ad =>
    refine wpList_append_own w hgd s x 23 ho base 56 i0 (.agg #[.int .i64 0, .int .i64 0]) 2 16 Try.underlying23 hi hz0 hz1 hz2 rfl (by decide) v n xs hs hown ad m c ((flat l).map (Value.int .i64)) hx (by simpa using hll) (fun j u hj => ?_) (one_int _ _) (by unfold maxLen; omega) (by omega) hbase
      (fun v' w' h1 h2 _ => h v' w' h1 (grown_below hown h2 hbase) (fun b hlt hne => h2.block b hlt hne))
    have h0 : 0 < (flat l).length := by
      have := (List.getElem?_eq_some_iff.1 hj).1
      simp at this; omega
    obtain ⟨b, q, e, _, _⟩ := id hb h0
    injection e with e; subst e
    exact hb.news j u hj
theorem made_at {W : World} {base g : Nat} {e : TypeId} {size : Nat} (hg : g = W.heap.size) (hb : base ≤ W.heap.size) : (W.alloc (.cells #[] e)).ownsRow base e size (.slice (some ⟨g, 0, none⟩) 0 0) 0 [] := by
  subst hg
  refine ⟨by simp, .inr ⟨_, 0, #[], rfl, hb, heap_alloc_new _ _, Nat.le_refl _, by simp [maxLen], by simp, by simp⟩⟩
set_option maxRecDepth 100000 in
set_option maxHeartbeats 16000000 in
theorem copy30 (A : Option Addr) (n c : Nat) (A2 : Option Addr) (n2 c2 : Nat) (Ac Pe : Int) (A3 : Option Addr) (m c3 : Nat) (R W : List Int) (ch : List (Int × Int)) (w : World) (hl : R.length = n) (hb : Ik .i64 w A R) (hc : n ≤ c) (hl2 : W.length = n2) (hb2 : Ik .i64 w A2 W) (hc2 : n2 ≤ c2) (hl3 : ch.length = m) (hb3 : Ik .i64 w A3 (flat ch)) (hc3 : m ≤ c3) (hs : n ≤ 5000) (hs2 : n2 ≤ 5000) (hs3 : m ≤ 5000) : Calls Try.prog 30 #[.agg #[.slice A n c, .slice A2 n2 c2, .int .i64 Ac, .int .i64 Pe, .slice A3 m c3]] w (PC R W Ac Pe ch w) := by
  have C1 := (Cl.new (w := w) rfl [.slice A n c, .slice A2 n2 c2, .int .i64 Ac, .int .i64 Pe, .slice A3 m c3] 25).below ((Below.refl _ _).alloc (Nat.le_refl _) (.cells #[.slice none 0 0, .slice none 0 0, .int .i64 0, .int .i64 0, .slice none 0 0] 25))
  have C2 := Cl.new (w := w.alloc (.cells #[.slice A n c, .slice A2 n2 c2, .int .i64 Ac, .int .i64 Pe, .slice A3 m c3] 25)) rfl [.slice none 0 0, .slice none 0 0, .int .i64 0, .int .i64 0, .slice none 0 0] 25
  have G8 : Below w.heap.size w ((w.alloc (.cells #[.slice A n c, .slice A2 n2 c2, .int .i64 Ac, .int .i64 Pe, .slice A3 m c3] 25)).alloc (.cells #[.slice none 0 0, .slice none 0 0, .int .i64 0, .int .i64 0, .slice none 0 0] 25)) := by go_grown
  have HB1 := Lib.hid (hb.below G8)
  have HB2 := Lib.hid (hb2.below G8)
  have HB3 := Lib.hid (hb3.below G8)
  have HW2 := Lib.hid hb2
  have HW3 := Lib.hid hb3
  have HL := Lib.hid hl
  have HL2 := Lib.hid hl2
  have HL3 := Lib.hid hl3
  have HGw8 := Lib.hid G8
  have HCw8 := Lib.hid C1
  have HDw8 := Lib.hid C2
  clear hl hl2 hl3 hb hb2 hb3 C1 C2 G8
  go_enter Try.func30, Try.ntmps30
  go_upto_region 1 with fail
  obtain ⟨w8, hw8⟩ : ∃ wx, wx = (w.alloc (.cells #[.slice A n c, .slice A2 n2 c2, .int .i64 Ac, .int .i64 Pe, .slice A3 m c3] 25)).alloc (.cells #[.slice none 0 0, .slice none 0 0, .int .i64 0, .int .i64 0, .slice none 0 0] 25) := ⟨_, rfl⟩
  have hQ : (w.alloc (.cells #[.slice A n c, .slice A2 n2 c2, .int .i64 Ac, .int .i64 Pe, .slice A3 m c3] 25)).heap.size = w.heap.size + 1 := by simp
  have hz8 : w8.heap.size = w.heap.size + 2 := by rw [hw8]; simp
  rw [hQ] at HDw8
  rw [← hw8] at HB1 HB2 HB3 HGw8 HCw8 HDw8 ⊢
  have HZ8 := Lib.hid hz8
  have hP8 : w.heap.size + 1 < w8.heap.size := by omega
  clear hw8 hQ hz8
  have al1 : Below w8.heap.size w8 (w8.alloc (.cells #[] 3)) := (Below.refl _ _).alloc (Nat.le_refl _) _
  have HBx := Lib.hid (HB1.out.below al1)
  have HOx := Lib.hid (made_at (W := w8) (base := w8.heap.size) (g := w8.heap.size) (e := 3) (size := 1) rfl (Nat.le_refl _))
  have p0 := HCw8.out.c 0 rfl
  have p1 := HCw8.out.c 1 rfl
  have p2 := HCw8.out.c 2 rfl
  have p3 := HCw8.out.c 3 rfl
  have p4 := HCw8.out.c 4 rfl
  have e0 := HCw8.out.f 0 rfl
  have e1 := HCw8.out.f 1 rfl
  have e2 := HCw8.out.f 2 rfl
  have e3 := HCw8.out.f 3 rfl
  have e4 := HCw8.out.f 4 rfl
  have zp := HCw8.out.1
  go_wp2_with (at_builtin; go_loud (refine app_it rfl _ _ rfl w8.heap.size 0 _ [] rfl HOx.out _ _ _ R rfl HL.out HBx.out ?c1 ?c2 ?_))
  case c1 => omega
  try (case c2 => simp)
  intro v1 x1 hown1 hb1 _
  try simp only [List.nil_append, Nat.zero_add] at hown1
  obtain ⟨B1, k1, rfl, _, _, _, _, hBl1⟩ := own_it hown1
  have hb1 : Below w8.heap.size w8 x1 := al1.trans hb1
  have CX := HCw8.out.below hb1
  have DX := HDw8.out.below hb1
  have HOWN := Lib.hid hown1
  have HCX := Lib.hid CX
  have HDX := Lib.hid DX
  have HBX := Lib.hid hb1
  clear p0 p1 p2 p3 p4 e0 e1 e2 e3 e4 zp al1 HBx HOx hown1 CX DX
  have p0 := HCX.out.c 0 rfl
  have p1 := HCX.out.c 1 rfl
  have p2 := HCX.out.c 2 rfl
  have p3 := HCX.out.c 3 rfl
  have p4 := HCX.out.c 4 rfl
  have e0 := HCX.out.f 0 rfl
  have e1 := HCX.out.f 1 rfl
  have e2 := HCX.out.f 2 rfl
  have e3 := HCX.out.f 3 rfl
  have e4 := HCX.out.f 4 rfl
  have zp := HCX.out.1
  go_upto_region 2 with fail
  obtain ⟨w1, hwo⟩ : ∃ wx, wx = x1.setCell ⟨w.heap.size, 0, none⟩ (Value.slice B1 n k1) := ⟨_, rfl⟩
  rw [← hwo]
  have HCw1 : Hid (Cl w.heap.size w1 [.slice B1 n k1, .slice A2 n2 c2, .int .i64 Ac, .int .i64 Pe, .slice A3 m c3]) := Lib.hid (by rw [hwo]; exact HCX.out.set 0 _)
  have HDw1 : Hid (Cl (w.heap.size + 1) w1 [.slice none 0 0, .slice none 0 0, .int .i64 0, .int .i64 0, .slice none 0 0]) := Lib.hid (by rw [hwo]; exact HDX.out.far (by omega) 0 _)
  have HO1 : Hid (w1.ownsRow w8.heap.size 3 1 (.slice B1 n k1) n (R.map (Value.int .i64))) := Lib.hid (by rw [hwo]; exact own_set HOWN.out (by omega) 0 _)
  have hzw1 : w8.heap.size ≤ w1.heap.size := by rw [hwo]; simpa using HBX.out.size
  have HLw1 : Hid (∀ g, (Value.slice B1 n k1).ownBlock = some g → g < w1.heap.size) := Lib.hid (by rw [hwo]; intro g hg; have := own_lt HOWN.out g hg; simpa using this)
  have HGw1 : Hid (Below w.heap.size w w1) := Lib.hid (by rw [hwo]; exact (chain HGw8.out HBX.out).setCell (p := ⟨w.heap.size, 0, none⟩) (Nat.le_refl _) _)
  have HB2x : Hid (Ik .i64 w1 A2 W) := Lib.hid (by rw [hwo]; exact Ik.far HW2.out (HB2.out.below HBX.out) (Nat.le_refl _) 0 _)
  have HB3x : Hid (Ik .i64 w1 A3 (flat ch)) := Lib.hid (by rw [hwo]; exact Ik.far HW3.out (HB3.out.below HBX.out) (Nat.le_refl _) 0 _)
  clear hwo p0 p1 p2 p3 p4 e0 e1 e2 e3 e4 zp HCX HDX HBX HOWN HCw8 HDw8 HGw8  HB2 HB3 hBl1 hb1
  have HB2 := HB2x
  have HB3 := HB3x
  have al2 : Below w1.heap.size w1 (w1.alloc (.cells #[] 3)) := (Below.refl _ _).alloc (Nat.le_refl _) _
  have HBx := Lib.hid (HB2.out.below al2)
  have HOx := Lib.hid (made_at (W := w1) (base := w1.heap.size) (g := w1.heap.size) (e := 3) (size := 1) rfl (Nat.le_refl _))
  have p0 := HCw1.out.c 0 rfl
  have p1 := HCw1.out.c 1 rfl
  have p2 := HCw1.out.c 2 rfl
  have p3 := HCw1.out.c 3 rfl
  have p4 := HCw1.out.c 4 rfl
  have e0 := HCw1.out.f 0 rfl
  have e1 := HCw1.out.f 1 rfl
  have e2 := HCw1.out.f 2 rfl
  have e3 := HCw1.out.f 3 rfl
  have e4 := HCw1.out.f 4 rfl
  have zp := HCw1.out.1
  go_wp2_with (at_builtin; go_loud (refine app_it rfl _ _ rfl w1.heap.size 0 _ [] rfl HOx.out _ _ _ W rfl HL2.out HBx.out ?c1 ?c2 ?_))
  case c1 => omega
  try (case c2 => simp)
  intro v2 x2 hown2 hb2 _
  try simp only [List.nil_append, Nat.zero_add] at hown2
  obtain ⟨B2, k2, rfl, _, _, _, _, hBl2⟩ := own_it hown2
  have hb2 : Below w1.heap.size w1 x2 := al2.trans hb2
  have CX := HCw1.out.below hb2
  have DX := HDw1.out.below hb2
  have HOWN := Lib.hid hown2
  have HCX := Lib.hid CX
  have HDX := Lib.hid DX
  have HBX := Lib.hid hb2
  clear p0 p1 p2 p3 p4 e0 e1 e2 e3 e4 zp al2 HBx HOx hown2 CX DX
  have p0 := HCX.out.c 0 rfl
  have p1 := HCX.out.c 1 rfl
  have p2 := HCX.out.c 2 rfl
  have p3 := HCX.out.c 3 rfl
  have p4 := HCX.out.c 4 rfl
  have e0 := HCX.out.f 0 rfl
  have e1 := HCX.out.f 1 rfl
  have e2 := HCX.out.f 2 rfl
  have e3 := HCX.out.f 3 rfl
  have e4 := HCX.out.f 4 rfl
  have zp := HCX.out.1
  go_upto_region 3 with fail
  obtain ⟨w2, hwo⟩ : ∃ wx, wx = x2.setCell ⟨w.heap.size, 1, none⟩ (Value.slice B2 n2 k2) := ⟨_, rfl⟩
  rw [← hwo]
  have HCw2 : Hid (Cl w.heap.size w2 [.slice B1 n k1, .slice B2 n2 k2, .int .i64 Ac, .int .i64 Pe, .slice A3 m c3]) := Lib.hid (by rw [hwo]; exact HCX.out.set 1 _)
  have HDw2 : Hid (Cl (w.heap.size + 1) w2 [.slice none 0 0, .slice none 0 0, .int .i64 0, .int .i64 0, .slice none 0 0]) := Lib.hid (by rw [hwo]; exact HDX.out.far (by omega) 1 _)
  have HO2 : Hid (w2.ownsRow w1.heap.size 3 1 (.slice B2 n2 k2) n2 (W.map (Value.int .i64))) := Lib.hid (by rw [hwo]; exact own_set HOWN.out (by omega) 1 _)
  have HO1x : Hid (w2.ownsRow w8.heap.size 3 1 (.slice B1 n k1) n (R.map (Value.int .i64))) := Lib.hid (by rw [hwo]; exact own_set (own_below HO1.out HBX.out) (by omega) 1 _)
  have hzw2 : w1.heap.size ≤ w2.heap.size := by rw [hwo]; simpa using HBX.out.size
  have HLw2 : Hid (∀ g, (Value.slice B2 n2 k2).ownBlock = some g → g < w2.heap.size) := Lib.hid (by rw [hwo]; intro g hg; have := own_lt HOWN.out g hg; simpa using this)
  have HGw2 : Hid (Below w.heap.size w w2) := Lib.hid (by rw [hwo]; exact (chain HGw1.out HBX.out).setCell (p := ⟨w.heap.size, 1, none⟩) (Nat.le_refl _) _)
  have HB3x : Hid (Ik .i64 w2 A3 (flat ch)) := Lib.hid (by rw [hwo]; exact Ik.far HW3.out (HB3.out.below HBX.out) (Nat.le_refl _) 1 _)
  clear hwo p0 p1 p2 p3 p4 e0 e1 e2 e3 e4 zp HCX HDX HBX HOWN HCw1 HDw1 HGw1 HO1 HB3 hBl2 hb2
  have HO1 := HO1x
  have HB3 := HB3x
  have al3 : Below w2.heap.size w2 (w2.alloc (.cells #[] 56)) := (Below.refl _ _).alloc (Nat.le_refl _) _
  have HBx := Lib.hid (HB3.out.below al3)
  have HOx := Lib.hid (made_at (W := w2) (base := w2.heap.size) (g := w2.heap.size) (e := 56) (size := 2) rfl (Nat.le_refl _))
  have p0 := HCw2.out.c 0 rfl
  have p1 := HCw2.out.c 1 rfl
  have p2 := HCw2.out.c 2 rfl
  have p3 := HCw2.out.c 3 rfl
  have p4 := HCw2.out.c 4 rfl
  have e0 := HCw2.out.f 0 rfl
  have e1 := HCw2.out.f 1 rfl
  have e2 := HCw2.out.f 2 rfl
  have e3 := HCw2.out.f 3 rfl
  have e4 := HCw2.out.f 4 rfl
  have zp := HCw2.out.1
  go_wp2_with (at_builtin; go_loud (refine app_ch rfl _ _ rfl w2.heap.size 0 _ [] rfl HOx.out _ _ _ ch rfl HL3.out HBx.out ?c1 ?c2 ?_))
  case c1 => omega
  try (case c2 => simp)
  intro v3 x3 hown3 hb3 _
  try simp only [List.nil_append, Nat.zero_add] at hown3
  obtain ⟨B3, k3, rfl, _, _, _, _, hBl3⟩ := own_it hown3
  have hb3 : Below w2.heap.size w2 x3 := al3.trans hb3
  have CX := HCw2.out.below hb3
  have DX := HDw2.out.below hb3
  have HOWN := Lib.hid hown3
  have HCX := Lib.hid CX
  have HDX := Lib.hid DX
  have HBX := Lib.hid hb3
  clear p0 p1 p2 p3 p4 e0 e1 e2 e3 e4 zp al3 HBx HOx hown3 CX DX
  have p0 := HCX.out.c 0 rfl
  have p1 := HCX.out.c 1 rfl
  have p2 := HCX.out.c 2 rfl
  have p3 := HCX.out.c 3 rfl
  have p4 := HCX.out.c 4 rfl
  have e0 := HCX.out.f 0 rfl
  have e1 := HCX.out.f 1 rfl
  have e2 := HCX.out.f 2 rfl
  have e3 := HCX.out.f 3 rfl
  have e4 := HCX.out.f 4 rfl
  have zp := HCX.out.1
  go_upto_region 4 with fail
  obtain ⟨w3, hwo⟩ : ∃ wx, wx = x3.setCell ⟨w.heap.size, 4, none⟩ (Value.slice B3 m k3) := ⟨_, rfl⟩
  rw [← hwo]
  have HCw3 : Hid (Cl w.heap.size w3 [.slice B1 n k1, .slice B2 n2 k2, .int .i64 Ac, .int .i64 Pe, .slice B3 m k3]) := Lib.hid (by rw [hwo]; exact HCX.out.set 4 _)
  have HDw3 : Hid (Cl (w.heap.size + 1) w3 [.slice none 0 0, .slice none 0 0, .int .i64 0, .int .i64 0, .slice none 0 0]) := Lib.hid (by rw [hwo]; exact HDX.out.far (by omega) 4 _)
  have HO3 : Hid (w3.ownsRow w2.heap.size 56 2 (.slice B3 m k3) m ((flat ch).map (Value.int .i64))) := Lib.hid (by rw [hwo]; exact own_set HOWN.out (by omega) 4 _)
  have HO1x : Hid (w3.ownsRow w8.heap.size 3 1 (.slice B1 n k1) n (R.map (Value.int .i64))) := Lib.hid (by rw [hwo]; exact own_set (own_below HO1.out HBX.out) (by omega) 4 _)
  have HO2x : Hid (w3.ownsRow w1.heap.size 3 1 (.slice B2 n2 k2) n2 (W.map (Value.int .i64))) := Lib.hid (by rw [hwo]; exact own_set (own_below HO2.out HBX.out) (by omega) 4 _)
  have hzw3 : w2.heap.size ≤ w3.heap.size := by rw [hwo]; simpa using HBX.out.size
  have HLw3 : Hid (∀ g, (Value.slice B3 m k3).ownBlock = some g → g < w3.heap.size) := Lib.hid (by rw [hwo]; intro g hg; have := own_lt HOWN.out g hg; simpa using this)
  have HGw3 : Hid (Below w.heap.size w w3) := Lib.hid (by rw [hwo]; exact (chain HGw2.out HBX.out).setCell (p := ⟨w.heap.size, 4, none⟩) (Nat.le_refl _) _)
  clear hwo p0 p1 p2 p3 p4 e0 e1 e2 e3 e4 zp HCX HDX HBX HOWN HCw2 HDw2 HGw2 HO1 HO2  hBl3 hb3
  have HO1 := HO1x
  have HO2 := HO2x
  have p0 := HCw3.out.c 0 rfl
  have p1 := HCw3.out.c 1 rfl
  have p2 := HCw3.out.c 2 rfl
  have p3 := HCw3.out.c 3 rfl
  have p4 := HCw3.out.c 4 rfl
  have q0 := HDw3.out.c 0 rfl
  have q1 := HDw3.out.c 1 rfl
  have q2 := HDw3.out.c 2 rfl
  have q3 := HDw3.out.c 3 rfl
  have q4 := HDw3.out.c 4 rfl
  have f0 := HDw3.out.f 0 rfl
  have f1 := HDw3.out.f 1 rfl
  have f2 := HDw3.out.f 2 rfl
  have f3 := HDw3.out.f 3 rfl
  have f4 := HDw3.out.f 4 rfl
  have zq := HDw3.out.1
  have zp := HCw3.out.1
  go_wp2_with fail
  refine bodyPost_ret (v := .agg #[.slice B1 n k1, .slice B2 n2 k2, .int .i64 Ac, .int .i64 Pe, .slice B3 m k3]) (by simp [results, Try.results30, go_sem, q0, f0, q1, f1, q2, f2, q3, f3, q4, f4, zq] <;> first | rfl | ((repeat' apply And.intro) <;> rfl)) rfl ⟨.slice B1 n k1, .slice B2 n2 k2, .slice B3 m k3, w1.heap.size, w2.heap.size, rfl, by have := HZ8.out; omega, hzw2, ?_, HLw1.out, ?_, HLw2.out, ?_, by simp; exact hzw3, below_set5 HGw3.out (Nat.le_succ _) _ _ _ _ _⟩
  · unfold Own
    rw [HL.out]
    exact own_mono (own_set5 HO1.out (by omega) _ _ _ _ _) (by omega)
  · unfold Own
    rw [HL2.out]
    exact own_set5 HO2.out (by omega) _ _ _ _ _
  · unfold OwC
    rw [HL3.out]
    exact own_set5 HO3.out (by omega) _ _ _ _ _
end Go.Proofs.Ytamajedopofcoaa
