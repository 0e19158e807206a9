/-
  The contract of copyPages. No condition but the slices' shape.
  The contract of the reference's Copy; append to rows of the call's own. No condition but the slices' shape.
  The contract of the reference's Valid. No condition but the slices' shape.
  What New, Write, Select and Commit return. No condition.
  Laws for blocks behind an append. No condition.
-/
import Derived.Test.YtamajedopofcoaaZA
set_option linter.unusedVariables false
set_option linter.unusedSimpArgs false
namespace Go.Proofs.Ytamajedopofcoaa
open Go.RowKit
set_option maxRecDepth 100000 in
set_option maxHeartbeats 16000000 in
theorem copy36 (A : Option Addr) (n c : Nat) (A2 : Option Addr) (n2 c2 : Nat) (Ac Pe : Int) (A3 : Option Addr) (m c3 : Nat) (R W : List Int) (ch : List (Int × Int)) (w : World) (hl : R.length = n) (hb : Ik .i64 w A R) (hc : n ≤ c) (hl2 : W.length = n2) (hb2 : Ik .i64 w A2 W) (hc2 : n2 ≤ c2) (hl3 : ch.length = m) (hb3 : Ik .i64 w A3 (flat ch)) (hc3 : m ≤ c3) (hs : n ≤ 5000) (hs2 : n2 ≤ 5000) (hs3 : m ≤ 5000) : Calls Try.prog 36 #[.agg #[.slice A n c, .slice A2 n2 c2, .int .i64 Ac, .int .i64 Pe, .slice A3 m c3]] w (PC R W Ac Pe ch w) := by
  have K1 := fun w h => clone27 A n c R w hl h (by omega) hc
  have K2 := fun w h => clone27 A2 n2 c2 W w hl2 h (by omega) hc2
  have K3 := fun w h => clone46 A3 m c3 ch w hl3 h (by omega) hc3
  replace K1 := Lib.hid K1
  replace K2 := Lib.hid K2
  replace K3 := Lib.hid K3
  have C1 := (Cl.new (w := w) rfl [.slice A n c, .slice A2 n2 c2, .int .i64 Ac, .int .i64 Pe, .slice A3 m c3] 25).below ((Below.refl _ _).alloc (Nat.le_refl _) (.cells #[.slice none 0 0, .slice none 0 0, .int .i64 0, .int .i64 0, .slice none 0 0] 25))
  have C2 := Cl.new (w := w.alloc (.cells #[.slice A n c, .slice A2 n2 c2, .int .i64 Ac, .int .i64 Pe, .slice A3 m c3] 25)) rfl [.slice none 0 0, .slice none 0 0, .int .i64 0, .int .i64 0, .slice none 0 0] 25
  have G8 : Below w.heap.size w ((w.alloc (.cells #[.slice A n c, .slice A2 n2 c2, .int .i64 Ac, .int .i64 Pe, .slice A3 m c3] 25)).alloc (.cells #[.slice none 0 0, .slice none 0 0, .int .i64 0, .int .i64 0, .slice none 0 0] 25)) := by go_grown
  have HB8 := Lib.hid (hb.below G8)
  have HB28 := Lib.hid (hb2.below G8)
  have HB38 := Lib.hid (hb3.below G8)
  have HG8 := Lib.hid G8
  have HC1 := Lib.hid C1
  have HC2 := Lib.hid C2
  clear hl hl2 hl3 hb hb2 hb3 C1 C2 G8
  go_enter Try.func36, Try.ntmps36
  go_upto_region 1 with fail
  obtain ⟨w8, hw8⟩ : ∃ wx, wx = (w.alloc (.cells #[.slice A n c, .slice A2 n2 c2, .int .i64 Ac, .int .i64 Pe, .slice A3 m c3] 25)).alloc (.cells #[.slice none 0 0, .slice none 0 0, .int .i64 0, .int .i64 0, .slice none 0 0] 25) := ⟨_, rfl⟩
  have hQ : (w.alloc (.cells #[.slice A n c, .slice A2 n2 c2, .int .i64 Ac, .int .i64 Pe, .slice A3 m c3] 25)).heap.size = w.heap.size + 1 := by simp
  have hz8 : w8.heap.size = w.heap.size + 2 := by rw [hw8]; simp
  rw [hQ] at HC2
  rw [← hw8] at HB8 HB28 HB38 HG8 HC1 HC2 ⊢
  have HZ8 := Lib.hid hz8
  clear hw8 hQ hz8
  have hP8 : w.heap.size < w8.heap.size := HC1.out.1
  have p0 := HC1.out.c 0 rfl
  have p1 := HC1.out.c 1 rfl
  have p2 := HC1.out.c 2 rfl
  have p3 := HC1.out.c 3 rfl
  have p4 := HC1.out.c 4 rfl
  refine region_K (fun W' => (∀ b o, b < w8.heap.size → W'.cell? ⟨b, o, none⟩ = w8.cell? ⟨b, o, none⟩) ∧ Below w8.heap.size w8 W') 8 (by kernel_rfl) (Kp.mk (Below.refl _ _).drew) (fun hHeld => ?_)
  refine K_take' (i := 0) (v := ?_) rfl (by kernel_rfl) (by kernel_rfl) (by kernel_rfl) (by kernel_rfl) (fun _ _ _ h => h) (Or.inl ⟨by kernel_rfl, ?_⟩) hHeld ?_
  rotate_left 1
  · intro W8 hSw
    clear hSw
    go_simp
    all_goals with_reducible rfl
  try simp only [Act.put, List.setIfInBounds_toArray, List.set_cons_zero, List.set_cons_succ]
  refine K_take' (i := 3) (v := ?_) rfl (by kernel_rfl) (by kernel_rfl) (by kernel_rfl) (by kernel_rfl) (fun _ _ _ h => h) (Or.inl ⟨by kernel_rfl, ?_⟩) hHeld ?_
  rotate_left 1
  · intro W8 hSw
    clear hSw
    go_simp
    all_goals with_reducible rfl
  try simp only [Act.put, List.setIfInBounds_toArray, List.set_cons_zero, List.set_cons_succ]
  refine K_take' (i := 6) (v := ?_) rfl (by kernel_rfl) (by kernel_rfl) (by kernel_rfl) (by kernel_rfl) (fun _ _ _ h => h) (Or.inl ⟨by kernel_rfl, ?_⟩) hHeld ?_
  rotate_left 1
  · intro W8 hSw
    clear hSw
    go_simp
    all_goals with_reducible rfl
  try simp only [Act.put, List.setIfInBounds_toArray, List.set_cons_zero, List.set_cons_succ]
  refine K_take (i := 1) (v := ?_) rfl (by kernel_rfl) (by kernel_rfl) (by kernel_rfl) (by kernel_rfl) (by kernel_rfl) (fun _ _ _ h => h) (Or.inl ⟨by kernel_rfl, ?_⟩) hHeld ?_
  rotate_left 1
  · intro W8 hSw
    (try dsimp only at hSw)
    go_simp
    all_goals with_reducible rfl
  try simp only [Act.put, List.setIfInBounds_toArray, List.set_cons_zero, List.set_cons_succ]
  refine K_take (i := 4) (v := ?_) rfl (by kernel_rfl) (by kernel_rfl) (by kernel_rfl) (by kernel_rfl) (by kernel_rfl) (fun _ _ _ h => h) (Or.inl ⟨by kernel_rfl, ?_⟩) hHeld ?_
  rotate_left 1
  · intro W8 hSw
    (try dsimp only at hSw)
    go_simp
    all_goals with_reducible rfl
  try simp only [Act.put, List.setIfInBounds_toArray, List.set_cons_zero, List.set_cons_succ]
  refine K_take (i := 7) (v := ?_) rfl (by kernel_rfl) (by kernel_rfl) (by kernel_rfl) (by kernel_rfl) (by kernel_rfl) (fun _ _ _ h => h) (Or.inl ⟨by kernel_rfl, ?_⟩) hHeld ?_
  rotate_left 1
  · intro W8 hSw
    (try dsimp only at hSw)
    go_simp
    all_goals with_reducible rfl
  try simp only [Act.put, List.setIfInBounds_toArray, List.set_cons_zero, List.set_cons_succ]
  refine K_step' (i := 2) (by kernel_rfl) rfl (fun K hK => ?_)
  go_simp
  refine (K1.out _ (HB8.out.below hHeld.2)).mono ?_
  rintro r w1 ⟨v1, rfl, hownv1, hbv1⟩
  obtain ⟨Bv1, kv1, rfl, _⟩ := own_it hownv1
  have hKpv1 := Kp.next hHeld hbv1
  refine hK.out _ _ hKpv1 (fun hH1 => ?_)
  clear hK K
  try simp only [Act.put, List.setIfInBounds_toArray, List.set_cons_zero, List.set_cons_succ]
  refine K_take' (i := 9) (v := ?_) rfl (by kernel_rfl) (by kernel_rfl) (by kernel_rfl) (by kernel_rfl) (fun _ _ _ h => h) (Or.inl ⟨by kernel_rfl, ?_⟩) hKpv1 ?_
  rotate_left 1
  · intro W8 hSw
    clear hSw
    go_simp
    all_goals with_reducible rfl
  try simp only [Act.put, List.setIfInBounds_toArray, List.set_cons_zero, List.set_cons_succ]
  refine K_step' (i := 5) (by kernel_rfl) rfl (fun K hK => ?_)
  go_simp
  refine (K2.out _ (HB28.out.below hKpv1.2)).mono ?_
  rintro r w2 ⟨v2, rfl, hownv2, hbv2⟩
  obtain ⟨Bv2, kv2, rfl, _⟩ := own_it hownv2
  have hKpv2 := Kp.next hKpv1 hbv2
  refine hK.out _ _ hKpv2 (fun hH2 => ?_)
  clear hK K
  try simp only [Act.put, List.setIfInBounds_toArray, List.set_cons_zero, List.set_cons_succ]
  refine K_step (by kernel_rfl) (by kernel_rfl) rfl (fun K hK => ?_)
  go_simp
  refine (K3.out _ (HB38.out.below hKpv2.2)).mono ?_
  rintro r w3 ⟨v3, rfl, hownv3, hbv3⟩
  obtain ⟨Bv3, kv3, rfl, _⟩ := own_it hownv3
  have hKpv3 := Kp.next hKpv2 hbv3
  refine hK.out _ _ ?_
  clear hK K
  try simp only [Act.put, List.setIfInBounds_toArray, List.set_cons_zero, List.set_cons_succ]
  have C3 := HC1.out.below hKpv3.2
  have D3 := HC2.out.below hKpv3.2
  have hz1 := hKpv1.2.size
  have hz0 := HG8.out.size
  have hz2 := hKpv2.2.size
  have hz3 := hKpv3.2.size
  have hg1 : ∀ g, (Value.slice Bv1 R.length kv1).ownBlock = some g → g < w1.heap.size := own_lt hownv1
  have hg2 : ∀ g, (Value.slice Bv2 W.length kv2).ownBlock = some g → g < w2.heap.size := own_lt hownv2
  have hz12 := hbv2.size
  have hz23 := hbv3.size
  have O1 := own_below (own_below hownv1 hbv2) hbv3
  have O2 := own_below hownv2 hbv3
  have HC3 := Lib.hid C3
  have HD3 := Lib.hid D3
  have HO1 := Lib.hid O1
  have HO2 := Lib.hid O2
  have HO3 := Lib.hid hownv3
  have HG3 := Lib.hid (chain HG8.out hKpv3.2)
  have hP3 : w.heap.size < w3.heap.size := by omega
  have HG1 := Lib.hid hg1
  have HG2 := Lib.hid hg2
  clear p0 p1 p2 p3 p4 C3 D3 hKpv1 hKpv2 hKpv3 hHeld hH1 hH2 hbv1 hbv2 hbv3 hownv1 hownv2 hownv3 O1 O2 hg1 hg2 HB8 HB28 HB38 K1 K2 K3
  have p0 := HC3.out.c 0 rfl
  have p1 := HC3.out.c 1 rfl
  have p2 := HC3.out.c 2 rfl
  have p3 := HC3.out.c 3 rfl
  have p4 := HC3.out.c 4 rfl
  have e0 := HC3.out.f 0 rfl
  have e1 := HC3.out.f 1 rfl
  have e2 := HC3.out.f 2 rfl
  have e3 := HC3.out.f 3 rfl
  have e4 := HC3.out.f 4 rfl
  refine wpAny_ready (rs := [10]) (by kernel_rfl) (by simp) (AllReady.cons rfl (fun K hK => ?_) AllReady.nil)
  go_simp
  refine hK _ _ ?_
  clear hK K
  try simp only [Act.put, List.setIfInBounds_toArray, List.set_cons_zero, List.set_cons_succ]
  refine wpAny_take (i := 11) (v := ?_) rfl (by kernel_rfl) (by kernel_rfl) (by kernel_rfl) (fun _ _ _ h => h) (Or.inl ⟨by kernel_rfl, ?_⟩) ?_
  rotate_left 1
  · intro W8
    go_simp
    all_goals with_reducible rfl
  try simp only [Act.put, List.setIfInBounds_toArray, List.set_cons_zero, List.set_cons_succ]
  refine wpAny_ready (rs := [12]) (by kernel_rfl) (by simp) (AllReady.cons rfl (fun K hK => ?_) AllReady.nil)
  go_simp
  refine hK _ _ ?_
  clear hK K
  try simp only [Act.put, List.setIfInBounds_toArray, List.set_cons_zero, List.set_cons_succ]
  refine wpAny_take (i := 13) (v := ?_) rfl (by kernel_rfl) (by kernel_rfl) (by kernel_rfl) (fun _ _ _ h => h) (Or.inl ⟨by kernel_rfl, ?_⟩) ?_
  rotate_left 1
  · intro W8
    go_simp
    all_goals with_reducible rfl
  try simp only [Act.put, List.setIfInBounds_toArray, List.set_cons_zero, List.set_cons_succ]
  refine wpAny_ready (rs := [14]) (by kernel_rfl) (by simp) (AllReady.cons rfl (fun K hK => ?_) AllReady.nil)
  go_simp
  refine hK _ _ ?_
  clear hK K
  try simp only [Act.put, List.setIfInBounds_toArray, List.set_cons_zero, List.set_cons_succ]
  refine wpAny_done (by kernel_rfl) ?_ _
  obtain ⟨w4, hw4⟩ : ∃ wx, wx = (((w3.setCell ⟨w.heap.size, 0, none⟩ (Value.slice Bv1 R.length kv1)).setCell ⟨w.heap.size, 1, none⟩ (Value.slice Bv2 W.length kv2)).setCell ⟨w.heap.size, 4, none⟩ (Value.slice Bv3 ch.length kv3)) := ⟨_, rfl⟩
  have C4 : Cl w.heap.size w4 [(Value.slice Bv1 R.length kv1), (Value.slice Bv2 W.length kv2), .int .i64 Ac, .int .i64 Pe, (Value.slice Bv3 ch.length kv3)] := by rw [hw4]; exact ((HC3.out.set 0 (Value.slice Bv1 R.length kv1)).set 1 (Value.slice Bv2 W.length kv2)).set 4 (Value.slice Bv3 ch.length kv3)
  have D4 : Cl (w.heap.size + 1) w4 [.slice none 0 0, .slice none 0 0, .int .i64 0, .int .i64 0, .slice none 0 0] := by rw [hw4]; exact ((HD3.out.far (by omega) 0 (Value.slice Bv1 R.length kv1)).far (by omega) 1 (Value.slice Bv2 W.length kv2)).far (by omega) 4 (Value.slice Bv3 ch.length kv3)
  have O1 : Own w4 w8.heap.size (Value.slice Bv1 R.length kv1) R := by rw [hw4]; exact own_set (own_set (own_set HO1.out hP8 0 (Value.slice Bv1 R.length kv1)) hP8 1 (Value.slice Bv2 W.length kv2)) hP8 4 (Value.slice Bv3 ch.length kv3)
  have O2 : Own w4 w1.heap.size (Value.slice Bv2 W.length kv2) W := by rw [hw4]; exact own_set (own_set (own_set HO2.out (by omega) 0 (Value.slice Bv1 R.length kv1)) (by omega) 1 (Value.slice Bv2 W.length kv2)) (by omega) 4 (Value.slice Bv3 ch.length kv3)
  have O3 : OwC w4 w2.heap.size (Value.slice Bv3 ch.length kv3) ch := by rw [hw4]; exact own_set (own_set (own_set HO3.out (by omega) 0 (Value.slice Bv1 R.length kv1)) (by omega) 1 (Value.slice Bv2 W.length kv2)) (by omega) 4 (Value.slice Bv3 ch.length kv3)
  have G4 : Below w.heap.size w w4 := by rw [hw4]; exact ((HG3.out.setCell (p := ⟨w.heap.size, 0, none⟩) (Nat.le_refl _) (Value.slice Bv1 R.length kv1)).setCell (p := ⟨w.heap.size, 1, none⟩) (Nat.le_refl _) (Value.slice Bv2 W.length kv2)).setCell (p := ⟨w.heap.size, 4, none⟩) (Nat.le_refl _) (Value.slice Bv3 ch.length kv3)
  have hz4 : w2.heap.size ≤ w4.heap.size := by rw [hw4]; simp; omega
  rw [← hw4]
  have HO1 := Lib.hid O1
  have HO2 := Lib.hid O2
  have HO3 := Lib.hid O3
  have HG4 := Lib.hid G4
  have hZ8 := HZ8.out
  clear hw4 p0 p1 p2 p3 p4 e0 e1 e2 e3 e4 O1 O2 O3 G4 HC3 HD3 HC1 HC2 HG8 HZ8
  have p0 := C4.c 0 rfl
  have p1 := C4.c 1 rfl
  have p2 := C4.c 2 rfl
  have p3 := C4.c 3 rfl
  have p4 := C4.c 4 rfl
  have q0 := D4.c 0 rfl
  have q1 := D4.c 1 rfl
  have q2 := D4.c 2 rfl
  have q3 := D4.c 3 rfl
  have q4 := D4.c 4 rfl
  have f0 := D4.f 0 rfl
  have f1 := D4.f 1 rfl
  have f2 := D4.f 2 rfl
  have f3 := D4.f 3 rfl
  have f4 := D4.f 4 rfl
  have zq := D4.1
  clear C4 D4
  go_wp2_with fail
  refine bodyPost_ret (v := .agg #[(Value.slice Bv1 R.length kv1), (Value.slice Bv2 W.length kv2), .int .i64 Ac, .int .i64 Pe, (Value.slice Bv3 ch.length kv3)]) (by simp [results, Try.results36, go_sem, q0, f0, q1, f1, q2, f2, q3, f3, q4, f4, zq] <;> first | rfl | ((repeat' apply And.intro) <;> rfl)) rfl ⟨(Value.slice Bv1 R.length kv1), (Value.slice Bv2 W.length kv2), (Value.slice Bv3 ch.length kv3), w1.heap.size, w2.heap.size, rfl, by omega, by omega, ?_, HG1.out, ?_, HG2.out, ?_, by simp; omega, below_set5 HG4.out (Nat.le_succ _) _ _ _ _ _⟩
  · exact own_mono (own_set5 HO1.out (by omega) _ _ _ _ _) (by omega)
  · exact own_set5 HO2.out (by omega) _ _ _ _ _
  · exact own_set5 HO3.out (by omega) _ _ _ _ _
end Go.Proofs.Ytamajedopofcoaa
set_option linter.unusedVariables false
set_option linter.unusedSimpArgs false
namespace Go.Proofs.Ytamajedopofcoaa
open Go.RowKit
theorem Ik.far {k : IntKind} {w w' : World} {A : Option Addr} {l : List Int} {P : Nat} (h : Ik k w A l) (h' : Ik k w' A l) (hP : w.heap.size ≤ P) (j : Nat) (u : Value) : Ik k (w'.setCell ⟨P, j, none⟩ u) A l := fun h0 => by
  obtain ⟨b, o, e, hb, _⟩ := h h0
  exact (h'.set P (fun b' o' e' => by rw [e] at e'; injection e' with e'; injection e' with e1 _; omega) j u) h0
theorem none_it {w : World} {base n c : Nat} {v : Value} {xs : List Value} (t : TypeId) (hown : w.ownsRow base 3 1 v n xs) :
    (Builtin.append_ #[22, 22] t #[v, .slice none 0 c]).run Try.prog w = .ok v w := by
  obtain ⟨i, hi, _⟩ := info_parts info3
  obtain ⟨_, hf⟩ := hown
  rcases hf with ⟨rfl, rfl⟩ | ⟨g, cap, cur, rfl, _, _, hle, _⟩
  · simp [Builtin.append_, run_underlying Try.underlying22, sizeOf, typeInfo, hi, Builtin.lenOf, Builtin.firstCells]
  · simp [Builtin.append_, run_underlying Try.underlying22, sizeOf, typeInfo, hi, Builtin.lenOf, Builtin.firstCells, hle, storeCells]
theorem app_it {ops : Array Oper} {rest : List Oper} {o : Oper} {a : Act} {Q : Exit → Act → World → Prop} {w : World} (hgd : o.guard = none) (s x : Operand)
    (ho : o.op = .call { callee := .builtin .append, args := #[s, x], argTypes := #[22, 22] }) (base n : Nat) (v : Value) (xs : List Value) (hs : a.eval s = v) (hown : w.ownsRow base 3 1 v n xs)
    (A : Option Addr) (m c : Nat) (l : List Int) (hx : a.eval x = .slice A m c) (hl : l.length = m) (hb : Ik .i64 w A l) (hsm : n + m ≤ 1000000) (hbase : base ≤ w.heap.size)
    (h : ∀ v' w', w'.ownsRow base 3 1 v' (n + m) (xs ++ l.map (Value.int .i64)) → Below base w w' → (∀ b, b < w.heap.size → some b ≠ v.ownBlock → w'.heap[b]? = w.heap[b]?) → wpList Try.prog ops Q rest (a.put o.dst v') w') : wpList Try.prog ops Q (o :: rest) a w := by
  obtain ⟨i0, hi, hz0, hz1, hz2⟩ := info_parts info3
  have hll : l.length = m * 1 := by rw [Nat.mul_one]; exact hl
  cases A with
  | none =>
    have h0 : l = [] := by
      rcases hq : l with _ | ⟨y, t⟩
      · rfl
      · obtain ⟨b, q, e, _⟩ := hb (by rw [hq]; simp); cases e
    obtain rfl : m = 0 := by rw [h0] at hll; simp at hll; omega
    refine wpList_plain hgd fun K hK => ?_
    have hrun := none_it (c := c) o.type hown
    unfold Oper.wp
    simp [execOp, ho, resolve, invoke, builtin, hs, hx, hrun, Result.andThen]
    exact hK _ _ (h v w (by rw [h0]; simpa using hown) (Below.refl _ _) (fun _ _ _ => rfl))
  | some ad =>
    refine wpList_append_own w hgd s x 22 ho base 3 i0 (.int .i64 0) 1 8 Try.underlying22 hi hz0 hz1 hz2 rfl (by decide) v n xs hs hown ad m c (l.map (Value.int .i64)) hx (by simpa using hll) (fun j u hj => ?_) (one_int _ _) (by unfold maxLen; omega) (by omega) hbase
      (fun v' w' h1 h2 _ => h v' w' h1 (grown_below hown h2 hbase) (fun b hlt hne => h2.block b hlt hne))
    have h0 : 0 < l.length := by
      have := (List.getElem?_eq_some_iff.1 hj).1
      simp at this; omega
    obtain ⟨b, q, e, _, _⟩ := id hb h0
    injection e with e; subst e
    exact hb.news j u hj
theorem none_ch {w : World} {base n c : Nat} {v : Value} {xs : List Value} (t : TypeId) (hown : w.ownsRow base 56 2 v n xs) :
    (Builtin.append_ #[23, 23] t #[v, .slice none 0 c]).run Try.prog w = .ok v w := by
  obtain ⟨i, hi, _⟩ := info_parts info56
  obtain ⟨_, hf⟩ := hown
  rcases hf with ⟨rfl, rfl⟩ | ⟨g, cap, cur, rfl, _, _, hle, _⟩
  · simp [Builtin.append_, run_underlying Try.underlying23, sizeOf, typeInfo, hi, Builtin.lenOf, Builtin.firstCells]
  · simp [Builtin.append_, run_underlying Try.underlying23, sizeOf, typeInfo, hi, Builtin.lenOf, Builtin.firstCells, hle, storeCells]
theorem app_ch {ops : Array Oper} {rest : List Oper} {o : Oper} {a : Act} {Q : Exit → Act → World → Prop} {w : World} (hgd : o.guard = none) (s x : Operand)
    (ho : o.op = .call { callee := .builtin .append, args := #[s, x], argTypes := #[23, 23] }) (base n : Nat) (v : Value) (xs : List Value) (hs : a.eval s = v) (hown : w.ownsRow base 56 2 v n xs)
    (A : Option Addr) (m c : Nat) (l : List (Int × Int)) (hx : a.eval x = .slice A m c) (hl : l.length = m) (hb : Ik .i64 w A (flat l)) (hsm : n + m ≤ 1000000) (hbase : base ≤ w.heap.size)
    (h : ∀ v' w', w'.ownsRow base 56 2 v' (n + m) (xs ++ (flat l).map (Value.int .i64)) → Below base w w' → (∀ b, b < w.heap.size → some b ≠ v.ownBlock → w'.heap[b]? = w.heap[b]?) → wpList Try.prog ops Q rest (a.put o.dst v') w') : wpList Try.prog ops Q (o :: rest) a w := by
  obtain ⟨i0, hi, hz0, hz1, hz2⟩ := info_parts info56
  have hll : (flat l).length = m * 2 := by rw [flat_len, hl]; omega
  cases A with
  | none =>
    have h0 : (flat l) = [] := by
      rcases hq : (flat l) with _ | ⟨y, t⟩
      · rfl
      · obtain ⟨b, q, e, _⟩ := hb (by rw [hq]; simp); cases e
    obtain rfl : m = 0 := by rw [h0] at hll; simp at hll; omega
    refine wpList_plain hgd fun K hK => ?_
    have hrun := none_ch (c := c) o.type hown
    unfold Oper.wp
    simp [execOp, ho, resolve, invoke, builtin, hs, hx, hrun, Result.andThen]
    exact hK _ _ (h v w (by rw [h0]; simpa using hown) (Below.refl _ _) (fun _ _ _ => rfl))
  | some ad =>
    refine wpList_append_own w hgd s x 23 ho base 56 i0 (.agg #[.int .i64 0, .int .i64 0]) 2 16 Try.underlying23 hi hz0 hz1 hz2 rfl (by decide) v n xs hs hown ad m c ((flat l).map (Value.int .i64)) hx (by simpa using hll) (fun j u hj => ?_) (one_int _ _) (by unfold maxLen; omega) (by omega) hbase
      (fun v' w' h1 h2 _ => h v' w' h1 (grown_below hown h2 hbase) (fun b hlt hne => h2.block b hlt hne))
    have h0 : 0 < (flat l).length := by
      have := (List.getElem?_eq_some_iff.1 hj).1
      simp at this; omega
    obtain ⟨b, q, e, _, _⟩ := id hb h0
    injection e with e; subst e
    exact hb.news j u hj
theorem made_at {W : World} {base g : Nat} {e : TypeId} {size : Nat} (hg : g = W.heap.size) (hb : base ≤ W.heap.size) : (W.alloc (.cells #[] e)).ownsRow base e size (.slice (some ⟨g, 0, none⟩) 0 0) 0 [] := by
  subst hg
  refine ⟨by simp, .inr ⟨_, 0, #[], rfl, hb, heap_alloc_new _ _, Nat.le_refl _, by simp [maxLen], by simp, by simp⟩⟩
set_option maxRecDepth 100000 in
set_option maxHeartbeats 16000000 in
theorem copy30 (A : Option Addr) (n c : Nat) (A2 : Option Addr) (n2 c2 : Nat) (Ac Pe : Int) (A3 : Option Addr) (m c3 : Nat) (R W : List Int) (ch : List (Int × Int)) (w : World) (hl : R.length = n) (hb : Ik .i64 w A R) (hc : n ≤ c) (hl2 : W.length = n2) (hb2 : Ik .i64 w A2 W) (hc2 : n2 ≤ c2) (hl3 : ch.length = m) (hb3 : Ik .i64 w A3 (flat ch)) (hc3 : m ≤ c3) (hs : n ≤ 5000) (hs2 : n2 ≤ 5000) (hs3 : m ≤ 5000) : Calls Try.prog 30 #[.agg #[.slice A n c, .slice A2 n2 c2, .int .i64 Ac, .int .i64 Pe, .slice A3 m c3]] w (PC R W Ac Pe ch w) := by
  have C1 := (Cl.new (w := w) rfl [.slice A n c, .slice A2 n2 c2, .int .i64 Ac, .int .i64 Pe, .slice A3 m c3] 25).below ((Below.refl _ _).alloc (Nat.le_refl _) (.cells #[.slice none 0 0, .slice none 0 0, .int .i64 0, .int .i64 0, .slice none 0 0] 25))
  have C2 := Cl.new (w := w.alloc (.cells #[.slice A n c, .slice A2 n2 c2, .int .i64 Ac, .int .i64 Pe, .slice A3 m c3] 25)) rfl [.slice none 0 0, .slice none 0 0, .int .i64 0, .int .i64 0, .slice none 0 0] 25
  have G8 : Below w.heap.size w ((w.alloc (.cells #[.slice A n c, .slice A2 n2 c2, .int .i64 Ac, .int .i64 Pe, .slice A3 m c3] 25)).alloc (.cells #[.slice none 0 0, .slice none 0 0, .int .i64 0, .int .i64 0, .slice none 0 0] 25)) := by go_grown
  have HB1 := Lib.hid (hb.below G8)
  have HB2 := Lib.hid (hb2.below G8)
  have HB3 := Lib.hid (hb3.below G8)
  have HW2 := Lib.hid hb2
  have HW3 := Lib.hid hb3
  have HL := Lib.hid hl
  have HL2 := Lib.hid hl2
  have HL3 := Lib.hid hl3
  have HGw8 := Lib.hid G8
  have HCw8 := Lib.hid C1
  have HDw8 := Lib.hid C2
  clear hl hl2 hl3 hb hb2 hb3 C1 C2 G8
  go_enter Try.func30, Try.ntmps30
  go_upto_region 1 with fail
  obtain ⟨w8, hw8⟩ : ∃ wx, wx = (w.alloc (.cells #[.slice A n c, .slice A2 n2 c2, .int .i64 Ac, .int .i64 Pe, .slice A3 m c3] 25)).alloc (.cells #[.slice none 0 0, .slice none 0 0, .int .i64 0, .int .i64 0, .slice none 0 0] 25) := ⟨_, rfl⟩
  have hQ : (w.alloc (.cells #[.slice A n c, .slice A2 n2 c2, .int .i64 Ac, .int .i64 Pe, .slice A3 m c3] 25)).heap.size = w.heap.size + 1 := by simp
  have hz8 : w8.heap.size = w.heap.size + 2 := by rw [hw8]; simp
  rw [hQ] at HDw8
  rw [← hw8] at HB1 HB2 HB3 HGw8 HCw8 HDw8 ⊢
  have HZ8 := Lib.hid hz8
  have hP8 : w.heap.size + 1 < w8.heap.size := by omega
  clear hw8 hQ hz8
  have al1 : Below w8.heap.size w8 (w8.alloc (.cells #[] 3)) := (Below.refl _ _).alloc (Nat.le_refl _) _
  have HBx := Lib.hid (HB1.out.below al1)
  have HOx := Lib.hid (made_at (W := w8) (base := w8.heap.size) (g := w8.heap.size) (e := 3) (size := 1) rfl (Nat.le_refl _))
  have p0 := HCw8.out.c 0 rfl
  have p1 := HCw8.out.c 1 rfl
  have p2 := HCw8.out.c 2 rfl
  have p3 := HCw8.out.c 3 rfl
  have p4 := HCw8.out.c 4 rfl
  have e0 := HCw8.out.f 0 rfl
  have e1 := HCw8.out.f 1 rfl
  have e2 := HCw8.out.f 2 rfl
  have e3 := HCw8.out.f 3 rfl
  have e4 := HCw8.out.f 4 rfl
  have zp := HCw8.out.1
  go_wp2_with (at_builtin; go_loud (refine app_it rfl _ _ rfl w8.heap.size 0 _ [] rfl HOx.out _ _ _ R rfl HL.out HBx.out ?c1 ?c2 ?_))
  case c1 => omega
  try (case c2 => simp)
  intro v1 x1 hown1 hb1 _
  try simp only [List.nil_append, Nat.zero_add] at hown1
  obtain ⟨B1, k1, rfl, _, _, _, _, hBl1⟩ := own_it hown1
  have hb1 : Below w8.heap.size w8 x1 := al1.trans hb1
  have CX := HCw8.out.below hb1
  have DX := HDw8.out.below hb1
  have HOWN := Lib.hid hown1
  have HCX := Lib.hid CX
  have HDX := Lib.hid DX
  have HBX := Lib.hid hb1
  clear p0 p1 p2 p3 p4 e0 e1 e2 e3 e4 zp al1 HBx HOx hown1 CX DX
  have p0 := HCX.out.c 0 rfl
  have p1 := HCX.out.c 1 rfl
  have p2 := HCX.out.c 2 rfl
  have p3 := HCX.out.c 3 rfl
  have p4 := HCX.out.c 4 rfl
  have e0 := HCX.out.f 0 rfl
  have e1 := HCX.out.f 1 rfl
  have e2 := HCX.out.f 2 rfl
  have e3 := HCX.out.f 3 rfl
  have e4 := HCX.out.f 4 rfl
  have zp := HCX.out.1
  go_upto_region 2 with fail
  obtain ⟨w1, hwo⟩ : ∃ wx, wx = x1.setCell ⟨w.heap.size, 0, none⟩ (Value.slice B1 n k1) := ⟨_, rfl⟩
  rw [← hwo]
  have HCw1 : Hid (Cl w.heap.size w1 [.slice B1 n k1, .slice A2 n2 c2, .int .i64 Ac, .int .i64 Pe, .slice A3 m c3]) := Lib.hid (by rw [hwo]; exact HCX.out.set 0 _)
  have HDw1 : Hid (Cl (w.heap.size + 1) w1 [.slice none 0 0, .slice none 0 0, .int .i64 0, .int .i64 0, .slice none 0 0]) := Lib.hid (by rw [hwo]; exact HDX.out.far (by omega) 0 _)
  have HO1 : Hid (w1.ownsRow w8.heap.size 3 1 (.slice B1 n k1) n (R.map (Value.int .i64))) := Lib.hid (by rw [hwo]; exact own_set HOWN.out (by omega) 0 _)
  have hzw1 : w8.heap.size ≤ w1.heap.size := by rw [hwo]; simpa using HBX.out.size
  have HLw1 : Hid (∀ g, (Value.slice B1 n k1).ownBlock = some g → g < w1.heap.size) := Lib.hid (by rw [hwo]; intro g hg; have := own_lt HOWN.out g hg; simpa using this)
  have HGw1 : Hid (Below w.heap.size w w1) := Lib.hid (by rw [hwo]; exact (chain HGw8.out HBX.out).setCell (p := ⟨w.heap.size, 0, none⟩) (Nat.le_refl _) _)
  have HB2x : Hid (Ik .i64 w1 A2 W) := Lib.hid (by rw [hwo]; exact Ik.far HW2.out (HB2.out.below HBX.out) (Nat.le_refl _) 0 _)
  have HB3x : Hid (Ik .i64 w1 A3 (flat ch)) := Lib.hid (by rw [hwo]; exact Ik.far HW3.out (HB3.out.below HBX.out) (Nat.le_refl _) 0 _)
  clear hwo p0 p1 p2 p3 p4 e0 e1 e2 e3 e4 zp HCX HDX HBX HOWN HCw8 HDw8 HGw8  HB2 HB3 hBl1 hb1
  have HB2 := HB2x
  have HB3 := HB3x
  have al2 : Below w1.heap.size w1 (w1.alloc (.cells #[] 3)) := (Below.refl _ _).alloc (Nat.le_refl _) _
  have HBx := Lib.hid (HB2.out.below al2)
  have HOx := Lib.hid (made_at (W := w1) (base := w1.heap.size) (g := w1.heap.size) (e := 3) (size := 1) rfl (Nat.le_refl _))
  have p0 := HCw1.out.c 0 rfl
  have p1 := HCw1.out.c 1 rfl
  have p2 := HCw1.out.c 2 rfl
  have p3 := HCw1.out.c 3 rfl
  have p4 := HCw1.out.c 4 rfl
  have e0 := HCw1.out.f 0 rfl
  have e1 := HCw1.out.f 1 rfl
  have e2 := HCw1.out.f 2 rfl
  have e3 := HCw1.out.f 3 rfl
  have e4 := HCw1.out.f 4 rfl
  have zp := HCw1.out.1
  go_wp2_with (at_builtin; go_loud (refine app_it rfl _ _ rfl w1.heap.size 0 _ [] rfl HOx.out _ _ _ W rfl HL2.out HBx.out ?c1 ?c2 ?_))
  case c1 => omega
  try (case c2 => simp)
  intro v2 x2 hown2 hb2 _
  try simp only [List.nil_append, Nat.zero_add] at hown2
  obtain ⟨B2, k2, rfl, _, _, _, _, hBl2⟩ := own_it hown2
  have hb2 : Below w1.heap.size w1 x2 := al2.trans hb2
  have CX := HCw1.out.below hb2
  have DX := HDw1.out.below hb2
  have HOWN := Lib.hid hown2
  have HCX := Lib.hid CX
  have HDX := Lib.hid DX
  have HBX := Lib.hid hb2
  clear p0 p1 p2 p3 p4 e0 e1 e2 e3 e4 zp al2 HBx HOx hown2 CX DX
  have p0 := HCX.out.c 0 rfl
  have p1 := HCX.out.c 1 rfl
  have p2 := HCX.out.c 2 rfl
  have p3 := HCX.out.c 3 rfl
  have p4 := HCX.out.c 4 rfl
  have e0 := HCX.out.f 0 rfl
  have e1 := HCX.out.f 1 rfl
  have e2 := HCX.out.f 2 rfl
  have e3 := HCX.out.f 3 rfl
  have e4 := HCX.out.f 4 rfl
  have zp := HCX.out.1
  go_upto_region 3 with fail
  obtain ⟨w2, hwo⟩ : ∃ wx, wx = x2.setCell ⟨w.heap.size, 1, none⟩ (Value.slice B2 n2 k2) := ⟨_, rfl⟩
  rw [← hwo]
  have HCw2 : Hid (Cl w.heap.size w2 [.slice B1 n k1, .slice B2 n2 k2, .int .i64 Ac, .int .i64 Pe, .slice A3 m c3]) := Lib.hid (by rw [hwo]; exact HCX.out.set 1 _)
  have HDw2 : Hid (Cl (w.heap.size + 1) w2 [.slice none 0 0, .slice none 0 0, .int .i64 0, .int .i64 0, .slice none 0 0]) := Lib.hid (by rw [hwo]; exact HDX.out.far (by omega) 1 _)
  have HO2 : Hid (w2.ownsRow w1.heap.size 3 1 (.slice B2 n2 k2) n2 (W.map (Value.int .i64))) := Lib.hid (by rw [hwo]; exact own_set HOWN.out (by omega) 1 _)
  have HO1x : Hid (w2.ownsRow w8.heap.size 3 1 (.slice B1 n k1) n (R.map (Value.int .i64))) := Lib.hid (by rw [hwo]; exact own_set (own_below HO1.out HBX.out) (by omega) 1 _)
  have hzw2 : w1.heap.size ≤ w2.heap.size := by rw [hwo]; simpa using HBX.out.size
  have HLw2 : Hid (∀ g, (Value.slice B2 n2 k2).ownBlock = some g → g < w2.heap.size) := Lib.hid (by rw [hwo]; intro g hg; have := own_lt HOWN.out g hg; simpa using this)
  have HGw2 : Hid (Below w.heap.size w w2) := Lib.hid (by rw [hwo]; exact (chain HGw1.out HBX.out).setCell (p := ⟨w.heap.size, 1, none⟩) (Nat.le_refl _) _)
  have HB3x : Hid (Ik .i64 w2 A3 (flat ch)) := Lib.hid (by rw [hwo]; exact Ik.far HW3.out (HB3.out.below HBX.out) (Nat.le_refl _) 1 _)
  clear hwo p0 p1 p2 p3 p4 e0 e1 e2 e3 e4 zp HCX HDX HBX HOWN HCw1 HDw1 HGw1 HO1 HB3 hBl2 hb2
  have HO1 := HO1x
  have HB3 := HB3x
  have al3 : Below w2.heap.size w2 (w2.alloc (.cells #[] 56)) := (Below.refl _ _).alloc (Nat.le_refl _) _
  have HBx := Lib.hid (HB3.out.below al3)
  have HOx := Lib.hid (made_at (W := w2) (base := w2.heap.size) (g := w2.heap.size) (e := 56) (size := 2) rfl (Nat.le_refl _))
  have p0 := HCw2.out.c 0 rfl
  have p1 := HCw2.out.c 1 rfl
  have p2 := HCw2.out.c 2 rfl
  have p3 := HCw2.out.c 3 rfl
  have p4 := HCw2.out.c 4 rfl
  have e0 := HCw2.out.f 0 rfl
  have e1 := HCw2.out.f 1 rfl
  have e2 := HCw2.out.f 2 rfl
  have e3 := HCw2.out.f 3 rfl
  have e4 := HCw2.out.f 4 rfl
  have zp := HCw2.out.1
  go_wp2_with (at_builtin; go_loud (refine app_ch rfl _ _ rfl w2.heap.size 0 _ [] rfl HOx.out _ _ _ ch rfl HL3.out HBx.out ?c1 ?c2 ?_))
  case c1 => omega
  try (case c2 => simp)
  intro v3 x3 hown3 hb3 _
  try simp only [List.nil_append, Nat.zero_add] at hown3
  obtain ⟨B3, k3, rfl, _, _, _, _, hBl3⟩ := own_it hown3
  have hb3 : Below w2.heap.size w2 x3 := al3.trans hb3
  have CX := HCw2.out.below hb3
  have DX := HDw2.out.below hb3
  have HOWN := Lib.hid hown3
  have HCX := Lib.hid CX
  have HDX := Lib.hid DX
  have HBX := Lib.hid hb3
  clear p0 p1 p2 p3 p4 e0 e1 e2 e3 e4 zp al3 HBx HOx hown3 CX DX
  have p0 := HCX.out.c 0 rfl
  have p1 := HCX.out.c 1 rfl
  have p2 := HCX.out.c 2 rfl
  have p3 := HCX.out.c 3 rfl
  have p4 := HCX.out.c 4 rfl
  have e0 := HCX.out.f 0 rfl
  have e1 := HCX.out.f 1 rfl
  have e2 := HCX.out.f 2 rfl
  have e3 := HCX.out.f 3 rfl
  have e4 := HCX.out.f 4 rfl
  have zp := HCX.out.1
  go_upto_region 4 with fail
  obtain ⟨w3, hwo⟩ : ∃ wx, wx = x3.setCell ⟨w.heap.size, 4, none⟩ (Value.slice B3 m k3) := ⟨_, rfl⟩
  rw [← hwo]
  have HCw3 : Hid (Cl w.heap.size w3 [.slice B1 n k1, .slice B2 n2 k2, .int .i64 Ac, .int .i64 Pe, .slice B3 m k3]) := Lib.hid (by rw [hwo]; exact HCX.out.set 4 _)
  have HDw3 : Hid (Cl (w.heap.size + 1) w3 [.slice none 0 0, .slice none 0 0, .int .i64 0, .int .i64 0, .slice none 0 0]) := Lib.hid (by rw [hwo]; exact HDX.out.far (by omega) 4 _)
  have HO3 : Hid (w3.ownsRow w2.heap.size 56 2 (.slice B3 m k3) m ((flat ch).map (Value.int .i64))) := Lib.hid (by rw [hwo]; exact own_set HOWN.out (by omega) 4 _)
  have HO1x : Hid (w3.ownsRow w8.heap.size 3 1 (.slice B1 n k1) n (R.map (Value.int .i64))) := Lib.hid (by rw [hwo]; exact own_set (own_below HO1.out HBX.out) (by omega) 4 _)
  have HO2x : Hid (w3.ownsRow w1.heap.size 3 1 (.slice B2 n2 k2) n2 (W.map (Value.int .i64))) := Lib.hid (by rw [hwo]; exact own_set (own_below HO2.out HBX.out) (by omega) 4 _)
  have hzw3 : w2.heap.size ≤ w3.heap.size := by rw [hwo]; simpa using HBX.out.size
  have HLw3 : Hid (∀ g, (Value.slice B3 m k3).ownBlock = some g → g < w3.heap.size) := Lib.hid (by rw [hwo]; intro g hg; have := own_lt HOWN.out g hg; simpa using this)
  have HGw3 : Hid (Below w.heap.size w w3) := Lib.hid (by rw [hwo]; exact (chain HGw2.out HBX.out).setCell (p := ⟨w.heap.size, 4, none⟩) (Nat.le_refl _) _)
  clear hwo p0 p1 p2 p3 p4 e0 e1 e2 e3 e4 zp HCX HDX HBX HOWN HCw2 HDw2 HGw2 HO1 HO2  hBl3 hb3
  have HO1 := HO1x
  have HO2 := HO2x
  have p0 := HCw3.out.c 0 rfl
  have p1 := HCw3.out.c 1 rfl
  have p2 := HCw3.out.c 2 rfl
  have p3 := HCw3.out.c 3 rfl
  have p4 := HCw3.out.c 4 rfl
  have q0 := HDw3.out.c 0 rfl
  have q1 := HDw3.out.c 1 rfl
  have q2 := HDw3.out.c 2 rfl
  have q3 := HDw3.out.c 3 rfl
  have q4 := HDw3.out.c 4 rfl
  have f0 := HDw3.out.f 0 rfl
  have f1 := HDw3.out.f 1 rfl
  have f2 := HDw3.out.f 2 rfl
  have f3 := HDw3.out.f 3 rfl
  have f4 := HDw3.out.f 4 rfl
  have zq := HDw3.out.1
  have zp := HCw3.out.1
  go_wp2_with fail
  refine bodyPost_ret (v := .agg #[.slice B1 n k1, .slice B2 n2 k2, .int .i64 Ac, .int .i64 Pe, .slice B3 m k3]) (by simp [results, Try.results30, go_sem, q0, f0, q1, f1, q2, f2, q3, f3, q4, f4, zq] <;> first | rfl | ((repeat' apply And.intro) <;> rfl)) rfl ⟨.slice B1 n k1, .slice B2 n2 k2, .slice B3 m k3, w1.heap.size, w2.heap.size, rfl, by have := HZ8.out; omega, hzw2, ?_, HLw1.out, ?_, HLw2.out, ?_, by simp; exact hzw3, below_set5 HGw3.out (Nat.le_succ _) _ _ _ _ _⟩
  · unfold Own
    rw [HL.out]
    exact own_mono (own_set5 HO1.out (by omega) _ _ _ _ _) (by omega)
  · unfold Own
    rw [HL2.out]
    exact own_set5 HO2.out (by omega) _ _ _ _ _
  · unfold OwC
    rw [HL3.out]
    exact own_set5 HO3.out (by omega) _ _ _ _ _
end Go.Proofs.Ytamajedopofcoaa
set_option linter.unusedVariables false
set_option linter.unusedSimpArgs false
namespace Go.Proofs.Ytamajedopofcoaa
open Go.RowKit
set_option maxRecDepth 100000 in
set_option maxHeartbeats 16000000 in
theorem rvalid12 (A : Option Addr) (n c : Nat) (A2 : Option Addr) (n2 c2 : Nat) (Ac Pe : Int) (A3 : Option Addr) (m c3 : Nat) (R W : List Int) (ch : List (Int × Int)) (w : World) (hl : R.length = n) (hb : Ik .i64 w A R) (hc : n ≤ c) (hl2 : W.length = n2) (hb2 : Ik .i64 w A2 W) (hc2 : n2 ≤ c2) (hl3 : ch.length = m) (hb3 : Ik .i64 w A3 (flat ch)) (hc3 : m ≤ c3) (hs : n ≤ 5000) (hs2 : n2 ≤ 5000) (hs3 : m ≤ 5000) : Calls Try.prog 12 #[.agg #[.slice A n c, .slice A2 n2 c2, .int .i64 Ac, .int .i64 Pe, .slice A3 m c3]] w fun r w' => r = .returned (.bool (vP R W Ac Pe ch)) ∧ Below w.heap.size w w' := by
  by_cases g0 : 1 ≤ n
  rotate_left 1
  · rw [show vP R W Ac Pe ch = false from by unfold vP listB; rw [hl, decide_eq_false g0]; simp]
    have d0 : decide ((n : Int) < 1) = true := by simp; omega
    clear hl hl2 hl3 hb hb2 hb3 g0
    go_enter Try.func12, Try.ntmps12
    go_wp2
    go_ret; exact ⟨rfl, by go_grown⟩
  by_cases g1 : n ≤ 1000
  rotate_left 1
  · rw [show vP R W Ac Pe ch = false from by unfold vP listB; rw [hl, decide_eq_false g1]; simp]
    have d0 : decide ((n : Int) < 1) = false := by simp; omega
    have d1 : decide (1000 < (n : Int)) = true := by simp; omega
    clear hl hl2 hl3 hb hb2 hb3 g0 g1
    go_enter Try.func12, Try.ntmps12
    go_wp2
    go_ret; exact ⟨rfl, by go_grown⟩
  by_cases g2 : n2 = n
  rotate_left 1
  · rw [show vP R W Ac Pe ch = false from by unfold vP; rw [hl2, hl, decide_eq_false g2]; simp]
    have d0 : decide ((n : Int) < 1) = false := by simp; omega
    have d1 : decide (1000 < (n : Int)) = false := by simp; omega
    have e2 : ((n2 : Int) == (n : Int)) = false := by simp; omega
    have e2d : decide ((n2 : Int) = (n : Int)) = false := by simp; omega
    have e2n : ((n2 : Int) != (n : Int)) = true := by simp; omega
    clear hl hl2 hl3 hb hb2 hb3 g0 g1 g2
    go_enter Try.func12, Try.ntmps12
    go_wp2
    go_ret; exact ⟨rfl, by go_grown⟩
  by_cases g3 : 0 ≤ Ac
  rotate_left 1
  · rw [show vP R W Ac Pe ch = false from by unfold vP; rw [decide_eq_false (show ¬ Ac = 0 by omega), decide_eq_false (show ¬ Ac = 1 by omega)]; simp]
    have d0 : decide ((n : Int) < 1) = false := by simp; omega
    have d1 : decide (1000 < (n : Int)) = false := by simp; omega
    have e2 : ((n2 : Int) == (n : Int)) = true := by simp; omega
    have e2d : decide ((n2 : Int) = (n : Int)) = true := by simp; omega
    have e2n : ((n2 : Int) != (n : Int)) = false := by simp; omega
    have d3 : decide (Ac < 0) = true := by simp; omega
    clear hl hl2 hl3 hb hb2 hb3 g0 g1 g2 g3
    go_enter Try.func12, Try.ntmps12
    go_wp2
    go_ret; exact ⟨rfl, by go_grown⟩
  by_cases g4 : Ac ≤ 1
  rotate_left 1
  · rw [show vP R W Ac Pe ch = false from by unfold vP; rw [decide_eq_false (show ¬ Ac = 0 by omega), decide_eq_false (show ¬ Ac = 1 by omega)]; simp]
    have d0 : decide ((n : Int) < 1) = false := by simp; omega
    have d1 : decide (1000 < (n : Int)) = false := by simp; omega
    have e2 : ((n2 : Int) == (n : Int)) = true := by simp; omega
    have e2d : decide ((n2 : Int) = (n : Int)) = true := by simp; omega
    have e2n : ((n2 : Int) != (n : Int)) = false := by simp; omega
    have d3 : decide (Ac < 0) = false := by simp; omega
    have d4 : decide (1 < Ac) = true := by simp; omega
    clear hl hl2 hl3 hb hb2 hb3 g0 g1 g2 g3 g4
    go_enter Try.func12, Try.ntmps12
    go_wp2
    go_ret; exact ⟨rfl, by go_grown⟩
  by_cases g5 : -1 ≤ Pe
  rotate_left 1
  · rw [show vP R W Ac Pe ch = false from by unfold vP; rw [decide_eq_false g5]; simp]
    have d0 : decide ((n : Int) < 1) = false := by simp; omega
    have d1 : decide (1000 < (n : Int)) = false := by simp; omega
    have e2 : ((n2 : Int) == (n : Int)) = true := by simp; omega
    have e2d : decide ((n2 : Int) = (n : Int)) = true := by simp; omega
    have e2n : ((n2 : Int) != (n : Int)) = false := by simp; omega
    have d3 : decide (Ac < 0) = false := by simp; omega
    have d4 : decide (1 < Ac) = false := by simp; omega
    have d5 : decide (Pe < -1) = true := by simp; omega
    clear hl hl2 hl3 hb hb2 hb3 g0 g1 g2 g3 g4 g5
    go_enter Try.func12, Try.ntmps12
    go_wp2
    go_ret; exact ⟨rfl, by go_grown⟩
  by_cases g6 : Pe ≤ 1
  rotate_left 1
  · rw [show vP R W Ac Pe ch = false from by unfold vP; rw [decide_eq_false g6]; simp]
    have d0 : decide ((n : Int) < 1) = false := by simp; omega
    have d1 : decide (1000 < (n : Int)) = false := by simp; omega
    have e2 : ((n2 : Int) == (n : Int)) = true := by simp; omega
    have e2d : decide ((n2 : Int) = (n : Int)) = true := by simp; omega
    have e2n : ((n2 : Int) != (n : Int)) = false := by simp; omega
    have d3 : decide (Ac < 0) = false := by simp; omega
    have d4 : decide (1 < Ac) = false := by simp; omega
    have d5 : decide (Pe < -1) = false := by simp; omega
    have d6 : decide (1 < Pe) = true := by simp; omega
    clear hl hl2 hl3 hb hb2 hb3 g0 g1 g2 g3 g4 g5 g6
    go_enter Try.func12, Try.ntmps12
    go_wp2
    go_ret; exact ⟨rfl, by go_grown⟩
  by_cases g7 : m ≤ 100
  rotate_left 1
  · rw [show vP R W Ac Pe ch = false from by unfold vP; rw [hl3, decide_eq_false g7]; simp]
    have d0 : decide ((n : Int) < 1) = false := by simp; omega
    have d1 : decide (1000 < (n : Int)) = false := by simp; omega
    have e2 : ((n2 : Int) == (n : Int)) = true := by simp; omega
    have e2d : decide ((n2 : Int) = (n : Int)) = true := by simp; omega
    have e2n : ((n2 : Int) != (n : Int)) = false := by simp; omega
    have d3 : decide (Ac < 0) = false := by simp; omega
    have d4 : decide (1 < Ac) = false := by simp; omega
    have d5 : decide (Pe < -1) = false := by simp; omega
    have d6 : decide (1 < Pe) = false := by simp; omega
    have d7 : decide (100 < (m : Int)) = true := by simp; omega
    clear hl hl2 hl3 hb hb2 hb3 g0 g1 g2 g3 g4 g5 g6 g7
    go_enter Try.func12, Try.ntmps12
    go_wp2
    go_ret; exact ⟨rfl, by go_grown⟩
  have eV : vP R W Ac Pe ch = (allP R && allP W && allC n ch) := by
    unfold vP listB
    rw [hl2, hl, hl3, decide_eq_true g0, decide_eq_true g1, decide_eq_true g2, decide_eq_true g5, decide_eq_true g6, decide_eq_true g7, decide_eq_true (show 1 ≤ n2 by omega), decide_eq_true (show n2 ≤ 1000 by omega)]
    rcases (by omega : Ac = 0 ∨ Ac = 1) with h | h <;> simp [h]
  rw [eV]
  have d0 : decide ((n : Int) < 1) = false := by simp; omega
  have d1 : decide (1000 < (n : Int)) = false := by simp; omega
  have e2 : ((n2 : Int) == (n : Int)) = true := by simp; omega
  have e2d : decide ((n2 : Int) = (n : Int)) = true := by simp; omega
  have e2n : ((n2 : Int) != (n : Int)) = false := by simp; omega
  have d3 : decide (Ac < 0) = false := by simp; omega
  have d4 : decide (1 < Ac) = false := by simp; omega
  have d5 : decide (Pe < -1) = false := by simp; omega
  have d6 : decide (1 < Pe) = false := by simp; omega
  have d7 : decide (100 < (m : Int)) = false := by simp; omega
  subst g2
  have HL := Lib.hid hl
  have HL2 := Lib.hid hl2
  have HL3 := Lib.hid hl3
  have HB := Lib.hid hb
  have HB2 := Lib.hid hb2
  have HB3 := Lib.hid hb3
  obtain ⟨b, o, rfl, hbl⟩ := hb.addr (by omega)
  obtain ⟨b2, o2, rfl, hbl2⟩ := hb2.addr (by omega)
  have al : Below w.heap.size w (w.alloc (.cells #[.slice (some ⟨b, o, none⟩) n2 c, .slice (some ⟨b2, o2, none⟩) n2 c2, .int .i64 Ac, .int .i64 Pe, .slice A3 m c3] 25)) := (Below.refl _ _).alloc (Nat.le_refl _) _
  have HAL := Lib.hid al
  clear hl hl2 hl3 hb hb2 hb3 eV al
  go_enter Try.func12, Try.ntmps12
  go_upto_region 5 with fail
  go_loopg [4] n2 (fun gk v wr => ∃ i : Nat, i ≤ n2 ∧ n2 - i ≤ gk ∧ v = .int .i64 i ∧ Hid (∀ j, j < i → parB (R.getD j 0) = true ∧ parB (W.getD j 0) = true) ∧ wr = w.alloc (.cells #[.slice (some ⟨b, o, none⟩) n2 c, .slice (some ⟨b2, o2, none⟩) n2 c2, .int .i64 Ac, .int .i64 Pe, .slice A3 m c3] 25))
  case atStart => exact ⟨0, by omega, by omega, rfl, Lib.hid (fun j h => by omega), rfl⟩
  case round =>
    obtain ⟨i, hi, hgk, rfl, HA, rfl⟩ := hrel
    by_cases hlt : i < n2
    · have q1 := ((HB.out.below HAL.out).at i (by rw [HL.out]; exact hlt)).1
      have q2 := ((HB2.out.below HAL.out).at i (by rw [HL2.out]; exact hlt)).1
      obtain ⟨x, hx⟩ : ∃ x, x = R.getD i 0 := ⟨_, rfl⟩
      obtain ⟨y, hy⟩ : ∃ y, y = W.getD i 0 := ⟨_, rfl⟩
      rw [← hx] at q1
      rw [← hy] at q2
      have K := fun w => param35 x w
      have K2 := fun w => param35 y w
      have HX := Lib.hid hx
      have HY := Lib.hid hy
      clear hx hy
      cases hp : parB x
      · rw [hp] at K
        replace K := Lib.hid K
        have HP := Lib.hid hp
        clear hp K2
        go_wp2_with fail
        refine (K.out _).mono ?_
        rintro r w1 ⟨rfl, rfl⟩
        go_wp2
        go_ret
        exact ⟨by rw [allP_f (i := i) (by rw [HL.out]; exact hlt) (by rw [← HX.out]; exact HP.out)]; rfl, HAL.out⟩
      · rw [hp] at K
        replace K := Lib.hid K
        have HP := Lib.hid hp
        clear hp
        cases hp2 : parB y
        · rw [hp2] at K2
          replace K2 := Lib.hid K2
          have HP2 := Lib.hid hp2
          clear hp2
          go_wp2_with fail
          refine (K.out _).mono ?_
          rintro r w1 ⟨rfl, rfl⟩
          go_wp2_with fail
          refine (K2.out _).mono ?_
          rintro r w1 ⟨rfl, rfl⟩
          go_wp2
          go_ret
          exact ⟨by rw [allP_f (l := W) (i := i) (by rw [HL2.out]; exact hlt) (by rw [← HY.out]; exact HP2.out)]; simp, HAL.out⟩
        · rw [hp2] at K2
          replace K2 := Lib.hid K2
          have HP2 := Lib.hid hp2
          clear hp2
          go_wp2_with fail
          refine (K.out _).mono ?_
          rintro r w1 ⟨rfl, rfl⟩
          go_wp2_with fail
          refine (K2.out _).mono ?_
          rintro r w1 ⟨rfl, rfl⟩
          go_wp2_with fail
          go_roundg (n2 - (i + 1))
          case measure => omega
          case rel =>
            refine ⟨i + 1, by omega, by omega, by go_num, Lib.hid (fun j h => ?_), rfl⟩
            by_cases hj : j = i
            · rw [hj, ← HX.out, ← HY.out]; exact ⟨HP.out, HP2.out⟩
            · exact HA.out j (by omega)
    · obtain rfl : i = n2 := by omega
      have hR : allP R = true := allP_t (fun j h => (HA.out j (by rw [HL.out] at h; exact h)).1)
      have hW : allP W = true := allP_t (fun j h => (HA.out j (by rw [HL2.out] at h; exact h)).2)
      have HR := Lib.hid hR
      have HW := Lib.hid hW
      clear hR hW HA
      go_upto_region 10 with fail
      go_loopg [5] m (fun gk v wr => ∃ k : Nat, k ≤ m ∧ m - k ≤ gk ∧ v = .int .i64 k ∧ Hid (∀ j p, j < k → ch[j]? = some p → chB i p = true) ∧ wr = w.alloc (.cells #[.slice (some ⟨b, o, none⟩) i c, .slice (some ⟨b2, o2, none⟩) i c2, .int .i64 Ac, .int .i64 Pe, .slice A3 m c3] 25))
      case atStart => exact ⟨0, by omega, by omega, rfl, Lib.hid (fun j p h => by omega), rfl⟩
      case round =>
        obtain ⟨k, hk, hgk2, rfl, HA, rfl⟩ := hrel
        by_cases hkl : k < m
        · obtain ⟨b3, o3, rfl, hbl3⟩ := HB3.out.addr (by rw [flat_len, HL3.out]; omega)
          have hip : k < ch.length := by rw [HL3.out]; exact hkl
          obtain ⟨p, hp⟩ : ∃ p, ch[k]? = some p := ⟨_, List.getElem?_eq_getElem hip⟩
          obtain ⟨u1, u2⟩ := flat_get ch k p hp
          obtain ⟨x, y⟩ := p
          obtain ⟨b', o', e', _, hcell⟩ := (HB3.out.below HAL.out) (by rw [flat_len]; omega)
          injection e' with e'; injection e' with e1 e2'
          subst e1; subst e2'
          have q1 := hcell _ _ u1
          have q2 := hcell _ _ u2
          rw [← Nat.add_assoc] at q2
          simp only at q1 q2
          have K := fun w => param35 y w
          have HP := Lib.hid hp
          clear hcell u1 u2 hp hip
          by_cases hx0 : x < 0
          · have t0 : decide (x < 0) = true := by simp [hx0]
            have hf : allC i ch = false := allC_f HP.out (by unfold chB; rw [decide_eq_false (by omega)]; rfl)
            have HF := Lib.hid hf
            clear hf hx0
            go_wp2
            go_ret
            exact ⟨by rw [HR.out, HW.out, HF.out]; rfl, HAL.out⟩
          have t0 : decide (x < 0) = false := by simp; omega
          by_cases hx1 : x < i
          rotate_left 1
          · have t1 : decide ((i : Int) ≤ x) = true := by simp; omega
            have hf : allC i ch = false := allC_f HP.out (by unfold chB; rw [decide_eq_false hx1]; simp)
            have HF := Lib.hid hf
            clear hf hx0 hx1
            go_wp2
            go_ret
            exact ⟨by rw [HR.out, HW.out, HF.out]; rfl, HAL.out⟩
          have t1 : decide ((i : Int) ≤ x) = false := by simp; omega
          cases hpy : parB y
          · rw [hpy] at K
            replace K := Lib.hid K
            have hf : allC i ch = false := allC_f HP.out (by unfold chB; simp [hpy])
            have HF := Lib.hid hf
            clear hf hpy hx0 hx1
            go_wp2_with fail
            refine (K.out _).mono ?_
            rintro r w1 ⟨rfl, rfl⟩
            go_wp2
            go_ret
            exact ⟨by rw [HR.out, HW.out, HF.out]; rfl, HAL.out⟩
          · rw [hpy] at K
            replace K := Lib.hid K
            have HC := Lib.hid (show chB i (x, y) = true by unfold chB; simp [hpy]; omega)
            clear hpy hx0 hx1
            go_wp2_with fail
            refine (K.out _).mono ?_
            rintro r w1 ⟨rfl, rfl⟩
            go_wp2_with fail
            go_roundg (m - (k + 1))
            case measure => omega
            case rel =>
              refine ⟨k + 1, by omega, by omega, by go_num, Lib.hid (fun j p h hj => ?_), rfl⟩
              by_cases hjk : j = k
              · subst hjk
                rw [HP.out] at hj
                obtain rfl := Option.some.inj hj
                exact HC.out
              · exact HA.out j p (by omega) hj
        · obtain rfl : k = m := by omega
          have HF := Lib.hid (allC_t (n := i) (ch := ch) (fun j p hj => HA.out j p (by have := (List.getElem?_eq_some_iff.1 hj).1; rw [HL3.out] at this; exact this) hj))
          go_wp2
          go_ret
          exact ⟨by rw [HR.out, HW.out, HF.out]; rfl, HAL.out⟩
end Go.Proofs.Ytamajedopofcoaa
set_option linter.unusedVariables false
set_option linter.unusedSimpArgs false
namespace Go.Proofs.Ytamajedopofcoaa
open Go.RowKit
def pz : PG := ⟨[], [], 0, 0, []⟩
def PG.ok (p : PG) : Bool := vP p.R p.W p.Ac p.Pe p.Ch
/-- pages and an error -/
def PO (q : PG) (e : Int) (w : World) (r : Ending) (w' : World) : Prop :=
  ∃ A n c A2 n2 c2 A3 m c3, r = .returned (.tuple #[.agg #[.slice A n c, .slice A2 n2 c2, .int .i64 q.Ac, .int .i64 q.Pe, .slice A3 m c3], .int .i64 e]) ∧ q.R.length = n ∧ n ≤ c ∧ Ik .i64 w' A q.R ∧ q.W.length = n2 ∧ n2 ≤ c2 ∧ Ik .i64 w' A2 q.W ∧ q.Ch.length = m ∧ m ≤ c3 ∧ Ik .i64 w' A3 (flat q.Ch) ∧ Fr w.heap.size A ∧ Fr w.heap.size A2 ∧ Fr w.heap.size A3 ∧ Below w.heap.size w w'
theorem PO.zero {w w' : World} {r : Ending} {e : Int} (hr : r = .returned (.tuple #[.agg #[.slice none 0 0, .slice none 0 0, .int .i64 0, .int .i64 0, .slice none 0 0], .int .i64 e])) (hb : Below w.heap.size w w') : PO pz e w r w' :=
  ⟨none, 0, 0, none, 0, 0, none, 0, 0, hr, rfl, Nat.le_refl _, Ik.nil _ _ _, rfl, Nat.le_refl _, Ik.nil _ _ _, rfl, Nat.le_refl _, Ik.nil _ _ _, Fr.none _, Fr.none _, Fr.none _, hb⟩
theorem Ik.fr {k : IntKind} {w : World} {A : Option Addr} {l : List Int} {B P : Nat} (h : Ik k w A l) (hA : Fr B A) (hP : P < B) (j : Nat) (u : Value) : Ik k (w.setCell ⟨P, j, none⟩ u) A l :=
  h.set P (fun b o q => by have := hA b o q; omega) j u
theorem Ik.fr5 {k : IntKind} {w : World} {A : Option Addr} {l : List Int} {B P : Nat} (h : Ik k w A l) (hA : Fr B A) (hP : P < B) (v0 v1 v2 v3 v4 : Value) : Ik k (((((w.setCell ⟨P, 0, none⟩ v0).setCell ⟨P, 1, none⟩ v1).setCell ⟨P, 2, none⟩ v2).setCell ⟨P, 3, none⟩ v3).setCell ⟨P, 4, none⟩ v4) A l :=
  ((((h.fr hA hP 0 v0).fr hA hP 1 v1).fr hA hP 2 v2).fr hA hP 3 v3).fr hA hP 4 v4
end Go.Proofs.Ytamajedopofcoaa
set_option linter.unusedVariables false
set_option linter.unusedSimpArgs false
namespace Go.Proofs.Ytamajedopofcoaa
open Go.RowKit
theorem vP_t {R W : List Int} {Ac Pe : Int} {ch : List (Int × Int)} (h : vP R W Ac Pe ch = true) : 1 ≤ R.length ∧ R.length ≤ 1000 ∧ W.length = R.length ∧ (Ac = 0 ∨ Ac = 1) ∧ -1 ≤ Pe ∧ Pe ≤ 1 ∧ ch.length ≤ 100 ∧ allC R.length ch = true ∧ allP R = true ∧ allP W = true := by
  unfold vP listB at h
  simp only [Bool.and_eq_true, Bool.or_eq_true, decide_eq_true_eq] at h
  obtain ⟨⟨⟨⟨⟨⟨⟨⟨⟨h1, h2⟩, h3⟩, ⟨⟨h4, h5⟩, h6⟩⟩, h7⟩, h8⟩, h9⟩, h10⟩, h11⟩, h12⟩ := h
  exact ⟨h1, h2, h7, h8, h9, h10, h11, h12, h3, h6⟩
theorem Ik.of_block {k : IntKind} {w : World} {g : Nat} {l : List Int} {t : TypeId} {f : Nat × Nat} (h : w.heap[g]? = some (.cells (l.map (Value.int k)).toArray t f)) : Ik k w (some ⟨g, 0, none⟩) l := fun _ => by
  refine ⟨g, 0, rfl, (Array.getElem?_eq_some_iff.1 h).1, fun i x hx => ?_⟩
  simp [World.cell?, h, List.getElem?_map, hx]
theorem new_at {W : World} {n : Nat} (hn : n = W.heap.size) (o : Obj) : (W.alloc o).heap[n]? = some o := by subst hn; exact heap_alloc_new _ _
theorem Cl.heap {P : Nat} {w w' : World} {vs : List Value} (h : Cl P w vs) (he : w'.heap[P]? = w.heap[P]?) : Cl P w' vs := by
  have hlt : P < w'.heap.size := by
    have h1 : w.heap[P]? = some (w.heap[P]'h.1) := Array.getElem?_eq_getElem h.1
    rw [h1] at he
    exact (Array.getElem?_eq_some_iff.1 he).1
  refine ⟨hlt, fun j v e => ?_⟩
  obtain ⟨h1, h2⟩ := h.2 j v e
  exact ⟨by rw [← h1]; exact World.cell?_of_block (w := w) (a := ⟨P, j, none⟩) he, by rw [← h2]; exact World.frozen?_of_block (w := w) (a := ⟨P, j, none⟩) he⟩
theorem app_one {ops : Array Oper} {rest : List Oper} {o : Oper} {a : Act} {Q : Exit → Act → World → Prop} {w : World} (hgd : o.guard = none) (s x : Operand)
    (ho : o.op = .call { callee := .builtin .append, args := #[s, x], argTypes := #[23, 23] }) (base n : Nat) (v : Value) (xs : List Value) (hs : a.eval s = v) (hown : w.ownsRow base 56 2 v n xs)
    (g0 : Nat) (p q : Int) (hx : a.eval x = .slice (some ⟨g0, 0, none⟩) 1 1) (hb : Ik .i64 w (some ⟨g0, 0, none⟩) (flat [(p, q)])) (hsm : n + 1 ≤ 1000000) (hbase : base ≤ w.heap.size)
    (h : ∀ g cap w', w'.ownsRow base 56 2 (.slice (some ⟨g, 0, none⟩) (n + 1) cap) (n + 1) (xs ++ (flat [(p, q)]).map (Value.int .i64)) → Below base w w' → (∀ b, b < w.heap.size → some b ≠ v.ownBlock → w'.heap[b]? = w.heap[b]?) → (v.ownBlock = some g ∨ g = w.heap.size) → wpList Try.prog ops Q rest (a.put o.dst (.slice (some ⟨g, 0, none⟩) (n + 1) cap)) w') : wpList Try.prog ops Q (o :: rest) a w := by
  obtain ⟨i0, hi, hz0, hz1, hz2⟩ := info_parts info56
  refine wpList_append_lies w hgd s x 23 ho base 56 i0 (.agg #[.int .i64 0, .int .i64 0]) 2 16 Try.underlying23 hi hz0 hz1 hz2 rfl (by decide) v n xs hs hown ⟨g0, 0, none⟩ 1 1 ((flat [(p, q)]).map (Value.int .i64)) hx rfl hb.news (one_int _ _) (by decide) (by unfold maxLen; omega) (by omega) hbase w.heap.size rfl ?_
  intro g cap w' h1 h2 h3 h4
  exact h g cap w' h1 (grown_below hown h2 hbase) (fun b hlt hne => h2.block b hlt hne) h3
theorem Ik.belowB {k : IntKind} {w w' : World} {A : Option Addr} {l : List Int} {B : Nat} (h : Ik k w A l) (hB : ∀ b o, A = some ⟨b, o, none⟩ → b < B) (hb : Below B w w') : Ik k w' A l := fun h0 => by
  obtain ⟨b, o, rfl, hbl, hc⟩ := h h0
  exact ⟨b, o, rfl, Nat.lt_of_lt_of_le hbl hb.size, fun i x hx => ((below_cell hb).1 _ _ (hB b o rfl)).trans (hc i x hx)⟩
end Go.Proofs.Ytamajedopofcoaa
