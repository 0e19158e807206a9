/-
  The contract of Send. No condition but the slice's shape.
-/
import Derived.Test.YtfjeediecmhedaaVar
set_option linter.unusedVariables false
set_option linter.unusedSimpArgs false
namespace Go.Proofs.Ytfjeediecmhedaa
open Go.RowKit
/-- a block that has just been laid, as a row of the call's own -/
theorem own_build {w : World} {base g : Nat} (hg : g = w.heap.size) (hb : base ≤ w.heap.size) (xs : List Value) (m : Nat) (hm : m = xs.length) (h63 : m ≤ maxLen) : (w.alloc (.cells xs.toArray 5)).ownsRow base 5 1 (.slice (some ⟨g, 0, none⟩) m m) m xs := by
  subst hg hm
  refine ⟨by simp, .inr ⟨_, xs.length, xs.toArray, rfl, hb, heap_alloc_new _ _, Nat.le_refl _, h63, by simp, by simp⟩⟩
theorem own_bt {w : World} {base g n c : Nat} {l : List Int} (h : w.ownsRow base 5 1 (.slice (some ⟨g, 0, none⟩) n c) n (l.map (Value.int .u8))) : Bt w (some ⟨g, 0, none⟩) l := fun h0 => by
  have hl := h.1
  simp at hl
  obtain ⟨g', cap, hv, h1, h2, h3, h4, h5⟩ := own_form h (by omega)
  injection hv with hv; injection hv with hv; injection hv with hv
  subst hv
  exact ⟨g, 0, rfl, h2, fun i x hx => by rw [Nat.zero_add]; exact h5 i _ (by simp [hx])⟩
set_option maxRecDepth 100000 in
set_option maxHeartbeats 4000000 in
theorem send19_one (A : Option Addr) (n c : Nat) (l : List Int) (t : Int) (w : World) (hl : l.length = n) (hb : Bt w A l) (h0 : 1 ≤ n) (h1 : n ≤ 7) (h2 : timeB t = true) :
    Calls Try.prog 19 #[.slice A n c, .int .i64 t] w (SP n n 0 0 0 false 0 0 false l (pad ((n : Int) :: l)) 0 w) := by
  have M := fun w => message41 A n c w
  rw [show msgB n = true by simp [msgB]; omega] at M
  replace M := Lib.hid M
  have T := fun w => instant37 t w
  rw [h2] at T
  replace T := Lib.hid T
  clear h2
  have HL := Lib.hid hl
  have HB := Lib.hid hb
  obtain ⟨i0, hi, hz0, hz1, hz2⟩ := info_parts info5
  have u8n : IntKind.u8.wrap (n : Int) = n := u8_of (by omega) (by omega)
  obtain ⟨xs, hxs⟩ : ∃ xs, xs = l.map (Value.int .u8) := ⟨_, rfl⟩
  have HX := Lib.hid hxs
  have hxl : xs.length = n := by rw [hxs]; simp [hl]
  clear hl hb hxs
  go_enter Try.func19, Try.ntmps19
  go_wp2_with (first | (go_at_call 41; refine (M.out _).mono ?_; rintro r w1 ⟨rfl, rfl⟩) | (go_at_call 37; refine (T.out _).mono ?_; rintro r w1 ⟨rfl, rfl⟩))
  refine (clone38 A n c l _ HL.out (HB.out.below (by go_grown)) (by omega)).mono ?_
  rintro r w1 ⟨v, rfl, hown, hb1⟩
  obtain ⟨A1, c1, rfl, hc1, hm1, hbt, hfr, hlt⟩ := hown.bt
  have hg1 := chain (w := w) (by go_grown) hb1
  have hs1 := hb1.size
  simp at hs1
  rw [HL.out] at hc1
  rw [HL.out]
  obtain ⟨bA, oA, rfl, hbA⟩ := HB.out.addr (by rw [HL.out]; omega)
  have hnews := HB.out.news
  rw [← HX.out] at hnews
  have S0 := Cl.new (w := w1) rfl [.slice A1 n c1, .int .i64 n, .int .i64 0, .int .i64 0, .int .i64 0, .bool false, .int .i64 0, .int .i64 0, .bool false] 40
  have R0 := ((Cl.new (w := w) rfl [.slice none 0 0, .int .i64 0, .int .i64 0, .int .i64 0, .int .i64 0, .bool false, .int .i64 0, .int .i64 0, .bool false] 40).below hb1).below ((Below.refl _ _).alloc (Nat.le_refl _) (.cells #[.slice A1 n c1, .int .i64 n, .int .i64 0, .int .i64 0, .int .i64 0, .bool false, .int .i64 0, .int .i64 0, .bool false] 40))
  have B3 := hbt.below ((Below.refl _ _).alloc (Nat.le_refl _) (.cells #[.slice A1 n c1, .int .i64 n, .int .i64 0, .int .i64 0, .int .i64 0, .bool false, .int .i64 0, .int .i64 0, .bool false] 40))
  have G3 : Below w.heap.size w (w1.alloc (.cells #[.slice A1 n c1, .int .i64 n, .int .i64 0, .int .i64 0, .int .i64 0, .bool false, .int .i64 0, .int .i64 0, .bool false] 40)) := hg1.alloc hg1.size _
  go_upto_region 7 with fail
  obtain ⟨w3, hw3⟩ : ∃ w3, w3 = w1.alloc (.cells #[.slice A1 n c1, .int .i64 n, .int .i64 0, .int .i64 0, .int .i64 0, .bool false, .int .i64 0, .int .i64 0, .bool false] 40) := ⟨_, rfl⟩
  have z3 : w3.heap.size = w1.heap.size + 1 := by rw [hw3]; simp
  have Z3 := Lib.hid z3
  have zS : w1.heap.size < w3.heap.size := by omega
  have zR : w.heap.size < w3.heap.size := by omega
  have S3 : Cl w1.heap.size w3 [.slice A1 n c1, .int .i64 n, .int .i64 0, .int .i64 0, .int .i64 0, .bool false, .int .i64 0, .int .i64 0, .bool false] := by rw [hw3]; exact S0
  have R3 : Cl w.heap.size w3 [.slice none 0 0, .int .i64 0, .int .i64 0, .int .i64 0, .int .i64 0, .bool false, .int .i64 0, .int .i64 0, .bool false] := by rw [hw3]; exact R0
  have HB3 : Hid (Bt w3 A1 l) := Lib.hid (by rw [hw3]; exact B3)
  have HG3 : Hid (Below w.heap.size w w3) := Lib.hid (by rw [hw3]; exact G3)
  rw [← hw3]
  have hnews3 : ∀ j u, xs[j]? = some u → w3.cell? ((⟨bA, oA, none⟩ : Addr).add j) = some u := fun j u h => by
    have := hnews j u h
    rw [WideShapes.add_plain] at this ⊢
    exact ((bcell HG3.out).1 _ _ hbA).trans this
  have hbA3 : bA < w3.heap.size := by have := HG3.out.size; omega
  have HN := Lib.hid hnews3
  obtain ⟨s0, s1, s2, s3, s4, s5, s6, s7, s8⟩ := S3.cells9
  have HR := Lib.hid R3
  have HFR := Lib.hid hfr
  clear S0 R0 B3 G3 hw3 z3 hnews hnews3 S3 R3 hbt hfr hlt hown hb1 M T hg1
  refine region_K (fun W' => (∀ b o, b < w3.heap.size → W'.cell? ⟨b, o, none⟩ = w3.cell? ⟨b, o, none⟩) ∧ Below w3.heap.size w3 W') 8 (by kernel_rfl) (Kp.mk (Below.refl _ _).drew) (fun hHeld => ?_)
  refine K_take (i := 0) (v := ?_) rfl (by kernel_rfl) (by kernel_rfl) (by kernel_rfl) (by kernel_rfl) (by kernel_rfl) (fun _ _ _ h => h) (Or.inl ⟨by rfl, ?_⟩) hHeld ?_
  rotate_left 1
  · intro W8 hSw
    (try dsimp only at hSw)
    go_simp
    all_goals with_reducible rfl
  try simp only [Act.put, List.setIfInBounds_toArray, List.set_cons_zero, List.set_cons_succ]
  refine K_take' (i := 1) (v := ?_) rfl (by kernel_rfl) (by kernel_rfl) (by kernel_rfl) (by kernel_rfl) (fun _ _ _ h => h) (Or.inl ⟨by rfl, ?_⟩) hHeld ?_
  rotate_left 1
  · intro W8 hSw
    clear hSw
    go_simp
    all_goals with_reducible rfl
  try simp only [Act.put, List.setIfInBounds_toArray, List.set_cons_zero, List.set_cons_succ]
  refine K_take' (i := 2) (v := ?_) rfl (by kernel_rfl) (by kernel_rfl) (by kernel_rfl) (by kernel_rfl) (fun _ _ _ h => h) (Or.inl ⟨by rfl, ?_⟩) hHeld ?_
  rotate_left 1
  · intro W8 hSw
    clear hSw
    go_simp
    all_goals with_reducible rfl
  try simp only [Act.put, List.setIfInBounds_toArray, List.set_cons_zero, List.set_cons_succ]
  refine K_take' (i := 3) (v := ?_) rfl (by kernel_rfl) (by kernel_rfl) (by kernel_rfl) (by kernel_rfl) (fun _ _ _ h => h) (Or.inl ⟨by rfl, ?_⟩) hHeld ?_
  rotate_left 1
  · intro W8 hSw
    clear hSw
    go_simp
    all_goals with_reducible rfl
  try simp only [Act.put, List.setIfInBounds_toArray, List.set_cons_zero, List.set_cons_succ]
  refine K_take' (i := 5) (v := ?_) rfl (by kernel_rfl) (by kernel_rfl) (by kernel_rfl) (by kernel_rfl) (fun _ _ _ h => h) (Or.inl ⟨by rfl, ?_⟩) hHeld ?_
  rotate_left 1
  · intro W8 hSw
    clear hSw
    go_simp
    all_goals with_reducible rfl
  try simp only [Act.put, List.setIfInBounds_toArray, List.set_cons_zero, List.set_cons_succ]
  refine K_step' (i := 4) (by kernel_rfl) rfl (fun K hK => ?_)
  go_simp
  refine hK.out _ _ (Kp.mk (show Below w3.heap.size w3 _ from ((Below.refl _ _).alloc (Nat.le_refl _) _).drew)) (fun hHeld2 => ?_)
  clear hK K
  try simp only [Act.put, List.setIfInBounds_toArray, List.set_cons_zero, List.set_cons_succ]
  have hownA := (own_build (w := w3) (base := w3.heap.size) rfl (Nat.le_refl _) [.int .u8 (n : Int)] 1 rfl (by simp [maxLen])).drew
  have hbW : Below w3.heap.size w3 (w3.alloc (.cells [Value.int .u8 (n : Int)].toArray 5)).drew := ((Below.refl _ _).alloc (Nat.le_refl _) _).drew
  refine K_step' (i := 6) (by kernel_rfl) rfl (fun K hK => ?_)
  refine step_append_lies _ (by rfl) (.tmp 28) (.tmp 29) 22 (by rfl) w3.heap.size 5 i0 (.int .u8 0) 1 1 Try.underlying22 hi hz0 hz1 hz2 rfl (by decide) _ _ _ (by rfl) hownA ⟨bA, oA, none⟩ n c xs (by rfl) (by omega) ?_ ?_ (by omega) ?_ ?_ ?_ _ rfl ?_
  · exact fun j u h => (by
      have := HN.out j u h
      rw [WideShapes.add_plain] at this ⊢
      exact ((bcell hbW).1 _ _ hbA3).trans this)
  · rw [HX.out]; exact one_u8 l
  · unfold maxLen; omega
  · omega
  · simp
  intro g cap w4 hown4 hgrow4 _ _
  have hb4 : Below w3.heap.size w3 w4 := hbW.trans (grown_below hownA hgrow4 (by simp))
  refine hK.out _ _ (Kp.mk hb4) (fun hHeld4 => ?_)
  clear hK K
  try simp only [Act.put, List.setIfInBounds_toArray, List.set_cons_zero, List.set_cons_succ]
  have hl4 : Bt w4 (some ⟨g, 0, none⟩) ((n : Int) :: l) := own_bt (c := cap) (n := 1 + n) (base := w3.heap.size) (by simpa [HX.out] using hown4)
  refine K_step' (i := 7) (by kernel_rfl) rfl (fun K hK => ?_)
  go_simp
  refine (frame42 (some ⟨g, 0, none⟩) (1 + n) cap ((n : Int) :: l) _ (by simp [HL.out] <;> omega) (by omega) hl4).mono ?_
  rintro r w5 ⟨k, rfl, hk0, hk1, hk, hb5⟩
  have hb5' : Below w3.heap.size w3 w5 := hb4.trans (hb5.mono hb4.size)
  refine hK.out _ _ (Kp.mk hb5') (fun hHeld5 => ?_)
  clear hK K
  try simp only [Act.put, List.setIfInBounds_toArray, List.set_cons_zero, List.set_cons_succ]
  have R5 := HR.out.below hb5'
  have G5 := chain HG3.out hb5'
  have B5 := HB3.out.below hb5'
  obtain ⟨r0, r1, r2, r3, r4, r5, r6, r7, r8⟩ := R5.cells9
  obtain ⟨f0, f1, f2, f3, f4, f5, f6, f7, f8⟩ := R5.free9
  have hz5 := R5.1
  have hn1 : w.heap.size ≠ k := by have := hb4.size; omega
  have hk2 : w.heap.size ≤ k := by have := hb4.size; omega
  have HK5 := Lib.hid hk
  clear hHeld hHeld2 hHeld4 hHeld5 s0 s1 s2 s3 s4 s5 s6 s7 s8 hown4 hgrow4 hownA hbW hb4 hb5 hb5' R5 hk hl4
  refine K_step (by kernel_rfl) (by kernel_rfl) rfl (fun K hK => ?_)
  go_simp
  refine hK.out _ _ ?_
  clear hK K
  try simp only [Act.put, List.setIfInBounds_toArray, List.set_cons_zero, List.set_cons_succ]
  refine wpAny_ready (rs := [9]) (by kernel_rfl) (by simp) (AllReady.cons rfl (fun K hK => ?_) AllReady.nil)
  go_simp
  refine hK _ _ ?_
  clear hK K
  try simp only [Act.put, List.setIfInBounds_toArray, List.set_cons_zero, List.set_cons_succ]
  refine wpAny_ready (rs := [10]) (by kernel_rfl) (by simp) (AllReady.cons rfl (fun K hK => ?_) AllReady.nil)
  go_simp
  refine hK _ _ ?_
  clear hK K
  try simp only [Act.put, List.setIfInBounds_toArray, List.set_cons_zero, List.set_cons_succ]
  refine wpAny_done (by kernel_rfl) ?_ _
  go_wp2_with fail
  refine bodyPost_ret (v := .tuple #[.agg #[.slice A1 n c1, .int .i64 n, .int .i64 0, .int .i64 0, .int .i64 0, .bool false, .int .i64 0, .int .i64 0, .bool false], .slice (some ⟨k, 0, none⟩) 8 8, .int .i64 0]) (by simp [results, Try.results19, go_sem, r0, r1, r2, r3, r4, r5, r6, r7, r8, hz5] <;> first | rfl | ((repeat' apply And.intro) <;> rfl)) rfl ⟨A1, c1, _, 8, 8, rfl, hc1, ?_, ?_, ?_, by omega, ?_, ?_, ?_⟩
  · exact B5.set9 (fun b o e => by have := HFR.out b o e; simp at this; omega) _ _ _ _ _ _ _ _ _
  · intro b o e
    have := HFR.out b o e
    simp at this; omega
  · rw [pad_len (by simp [HL.out] <;> omega)]
  · exact HK5.out.set9 (fun b o e => by injection e with e; injection e with e1 _; omega) _ _ _ _ _ _ _ _ _
  · intro b o e
    injection e with e; injection e with e1 _
    omega
  · exact below_set9 G5 (Nat.le_refl _) _ _ _ _ _ _ _ _ _
set_option maxRecDepth 100000 in
set_option maxHeartbeats 4000000 in
theorem send19_first (A : Option Addr) (n c : Nat) (l : List Int) (t : Int) (w : World) (hl : l.length = n) (hb : Bt w A l) (h0 : 8 ≤ n) (h1 : n ≤ 1023) (hc : n ≤ c) (h2 : timeB t = true) :
    Calls Try.prog 19 #[.slice A n c, .int .i64 t] w (SP n 6 1 0 0 true 0 (t + 1000000) false l (pad ((16 + (n : Int) / 256) :: ((n : Int) % 256) :: l.take 6)) 0 w) := by
  obtain ⟨t0, t1⟩ := inB_t (show inB t 0 1099511627776 = true from h2)
  obtain ⟨q, hq⟩ : ∃ q, (n : Int) / 256 = q := ⟨_, rfl⟩
  obtain ⟨m, hm⟩ : ∃ m, (n : Int) % 256 = m := ⟨_, rfl⟩
  have q03 : 0 ≤ q ∧ q ≤ 3 := by omega
  have m03 : 0 ≤ m ∧ m ≤ 255 := by omega
  rw [hq, hm]
  have hor : bits .or .i64 16 q = 16 + q := by
    have := i64_or16 (a := 1) (y := q) (by omega) (by omega) q03.1 (by omega)
    simpa using this
  have hu1 : IntKind.u8.wrap (16 + q) = 16 + q := u8_of (by omega) (by omega)
  have hu2 : IntKind.u8.wrap (n : Int) = m := by
    rw [← hm]; simp [IntKind.wrap, IntKind.signed, IntKind.bits]
  have M := fun w => message41 A n c w
  rw [show msgB n = true by simp [msgB]; omega] at M
  replace M := Lib.hid M
  have T := fun w => instant37 t w
  rw [h2] at T
  replace T := Lib.hid T
  clear h2
  have HL := Lib.hid hl
  have HB := Lib.hid hb
  obtain ⟨i0, hi, hz0, hz1, hz2⟩ := info_parts info5
  obtain ⟨xs, hxs⟩ : ∃ xs, xs = (l.take 6).map (Value.int .u8) := ⟨_, rfl⟩
  have HX := Lib.hid hxs
  have hxl : xs.length = 6 := by rw [hxs]; simp; omega
  clear hl hb hxs
  go_enter Try.func19, Try.ntmps19
  go_wp2_with (first | (go_at_call 41; refine (M.out _).mono ?_; rintro r w1 ⟨rfl, rfl⟩) | (go_at_call 37; refine (T.out _).mono ?_; rintro r w1 ⟨rfl, rfl⟩))
  refine (clone38 A n c l _ HL.out (HB.out.below (by go_grown)) (by omega)).mono ?_
  rintro r w1 ⟨v, rfl, hown, hb1⟩
  obtain ⟨A1, c1, rfl, hc1, hm1, hbt, hfr, hlt⟩ := hown.bt
  have hg1 := chain (w := w) (by go_grown) hb1
  have hs1 := hb1.size
  simp at hs1
  rw [HL.out] at hc1
  rw [HL.out]
  obtain ⟨bA, oA, rfl, hbA⟩ := HB.out.addr (by rw [HL.out]; omega)
  have hnews := (HB.out.sub 0 6).news
  rw [List.drop_zero, ← HX.out, Nat.add_zero] at hnews
  have S0 := ((((Cl.new (w := w1) rfl [.slice A1 n c1, .int .i64 n, .int .i64 0, .int .i64 0, .int .i64 0, .bool false, .int .i64 0, .int .i64 0, .bool false] 40).set 1 (.int .i64 6)).set 2 (.int .i64 1)).set 5 (.bool true)).set 7 (.int .i64 (t + 1000000))
  have R0 := ((Cl.new (w := w) rfl [.slice none 0 0, .int .i64 0, .int .i64 0, .int .i64 0, .int .i64 0, .bool false, .int .i64 0, .int .i64 0, .bool false] 40).below hb1).below ((Below.refl _ _).alloc (Nat.le_refl _) (.cells #[.slice A1 n c1, .int .i64 6, .int .i64 1, .int .i64 0, .int .i64 0, .bool true, .int .i64 0, .int .i64 (t + 1000000), .bool false] 40))
  have B3 := hbt.below ((Below.refl _ _).alloc (Nat.le_refl _) (.cells #[.slice A1 n c1, .int .i64 6, .int .i64 1, .int .i64 0, .int .i64 0, .bool true, .int .i64 0, .int .i64 (t + 1000000), .bool false] 40))
  have G3 : Below w.heap.size w (w1.alloc (.cells #[.slice A1 n c1, .int .i64 6, .int .i64 1, .int .i64 0, .int .i64 0, .bool true, .int .i64 0, .int .i64 (t + 1000000), .bool false] 40)) := hg1.alloc hg1.size _
  go_upto_region 9 with fail
  obtain ⟨w3, hw3⟩ : ∃ w3, w3 = w1.alloc (.cells #[.slice A1 n c1, .int .i64 6, .int .i64 1, .int .i64 0, .int .i64 0, .bool true, .int .i64 0, .int .i64 (t + 1000000), .bool false] 40) := ⟨_, rfl⟩
  have z3 : w3.heap.size = w1.heap.size + 1 := by rw [hw3]; simp
  have Z3 := Lib.hid z3
  have zS : w1.heap.size < w3.heap.size := by omega
  have zR : w.heap.size < w3.heap.size := by omega
  have S3 : Cl w1.heap.size w3 [.slice A1 n c1, .int .i64 6, .int .i64 1, .int .i64 0, .int .i64 0, .bool true, .int .i64 0, .int .i64 (t + 1000000), .bool false] := by rw [hw3]; exact Cl.new rfl _ 40
  have R3 : Cl w.heap.size w3 [.slice none 0 0, .int .i64 0, .int .i64 0, .int .i64 0, .int .i64 0, .bool false, .int .i64 0, .int .i64 0, .bool false] := by rw [hw3]; exact R0
  have HB3 : Hid (Bt w3 A1 l) := Lib.hid (by rw [hw3]; exact B3)
  have HG3 : Hid (Below w.heap.size w w3) := Lib.hid (by rw [hw3]; exact G3)
  rw [← hw3]
  have hnews3 : ∀ j u, xs[j]? = some u → w3.cell? ((⟨bA, oA, none⟩ : Addr).add j) = some u := fun j u h => by
    have := hnews j u h
    rw [WideShapes.add_plain] at this ⊢
    exact ((bcell HG3.out).1 _ _ hbA).trans this
  have hbA3 : bA < w3.heap.size := by have := HG3.out.size; omega
  have HN := Lib.hid hnews3
  obtain ⟨s0, s1, s2, s3, s4, s5, s6, s7, s8⟩ := S3.cells9
  have HR := Lib.hid R3
  have HFR := Lib.hid hfr
  clear S0 R0 B3 G3 hw3 z3 hnews hnews3 S3 R3 hbt hfr hlt hown hb1 M T hg1
  have hc6 : (6 : Int) ≤ (c : Int) := by omega
  refine region_K (fun W' => (∀ b o, b < w3.heap.size → W'.cell? ⟨b, o, none⟩ = w3.cell? ⟨b, o, none⟩) ∧ Below w3.heap.size w3 W') 14 (by kernel_rfl) (Kp.mk (Below.refl _ _).drew) (fun hHeld => ?_)
  refine K_take (i := 0) (v := ?_) rfl (by kernel_rfl) (by kernel_rfl) (by kernel_rfl) (by kernel_rfl) (by kernel_rfl) (fun _ _ _ h => h) (Or.inl ⟨by rfl, ?_⟩) hHeld ?_
  rotate_left 1
  · intro W8 hSw
    (try dsimp only at hSw)
    go_simp
    all_goals with_reducible rfl
  try simp only [Act.put, List.setIfInBounds_toArray, List.set_cons_zero, List.set_cons_succ]
  refine K_take' (i := 1) (v := ?_) rfl (by kernel_rfl) (by kernel_rfl) (by kernel_rfl) (by kernel_rfl) (fun _ _ _ h => h) (Or.inl ⟨by rfl, ?_⟩) hHeld ?_
  rotate_left 1
  · intro W8 hSw
    clear hSw
    go_simp
    all_goals with_reducible rfl
  try simp only [Act.put, List.setIfInBounds_toArray, List.set_cons_zero, List.set_cons_succ]
  refine K_take' (i := 2) (v := ?_) rfl (by kernel_rfl) (by kernel_rfl) (by kernel_rfl) (by kernel_rfl) (fun _ _ _ h => h) (Or.inl ⟨by rfl, ?_⟩) hHeld ?_
  rotate_left 1
  · intro W8 hSw
    clear hSw
    go_simp
    all_goals with_reducible rfl
  try simp only [Act.put, List.setIfInBounds_toArray, List.set_cons_zero, List.set_cons_succ]
  refine K_take' (i := 3) (v := ?_) rfl (by kernel_rfl) (by kernel_rfl) (by kernel_rfl) (by kernel_rfl) (fun _ _ _ h => h) (Or.inl ⟨by rfl, ?_⟩) hHeld ?_
  rotate_left 1
  · intro W8 hSw
    clear hSw
    go_simp
    all_goals with_reducible rfl
  try simp only [Act.put, List.setIfInBounds_toArray, List.set_cons_zero, List.set_cons_succ]
  refine K_take' (i := 4) (v := ?_) rfl (by kernel_rfl) (by kernel_rfl) (by kernel_rfl) (by kernel_rfl) (fun _ _ _ h => h) (Or.inl ⟨by rfl, ?_⟩) hHeld ?_
  rotate_left 1
  · intro W8 hSw
    clear hSw
    go_simp
    all_goals with_reducible rfl
  try simp only [Act.put, List.setIfInBounds_toArray, List.set_cons_zero, List.set_cons_succ]
  refine K_take' (i := 5) (v := ?_) rfl (by kernel_rfl) (by kernel_rfl) (by kernel_rfl) (by kernel_rfl) (fun _ _ _ h => h) (Or.inl ⟨by rfl, ?_⟩) hHeld ?_
  rotate_left 1
  · intro W8 hSw
    clear hSw
    go_simp
    all_goals with_reducible rfl
  try simp only [Act.put, List.setIfInBounds_toArray, List.set_cons_zero, List.set_cons_succ]
  refine K_take' (i := 6) (v := ?_) rfl (by kernel_rfl) (by kernel_rfl) (by kernel_rfl) (by kernel_rfl) (fun _ _ _ h => h) (Or.inl ⟨by rfl, ?_⟩) hHeld ?_
  rotate_left 1
  · intro W8 hSw
    clear hSw
    go_simp
    all_goals with_reducible rfl
  try simp only [Act.put, List.setIfInBounds_toArray, List.set_cons_zero, List.set_cons_succ]
  refine K_take' (i := 7) (v := ?_) rfl (by kernel_rfl) (by kernel_rfl) (by kernel_rfl) (by kernel_rfl) (fun _ _ _ h => h) (Or.inl ⟨by rfl, ?_⟩) hHeld ?_
  rotate_left 1
  · intro W8 hSw
    clear hSw
    go_simp
    all_goals with_reducible rfl
  try simp only [Act.put, List.setIfInBounds_toArray, List.set_cons_zero, List.set_cons_succ]
  refine K_take' (i := 8) (v := ?_) rfl (by kernel_rfl) (by kernel_rfl) (by kernel_rfl) (by kernel_rfl) (fun _ _ _ h => h) (Or.inl ⟨by rfl, ?_⟩) hHeld ?_
  rotate_left 1
  · intro W8 hSw
    clear hSw
    go_simp
    all_goals with_reducible rfl
  try simp only [Act.put, List.setIfInBounds_toArray, List.set_cons_zero, List.set_cons_succ]
  refine K_take' (i := 10) (v := ?_) rfl (by kernel_rfl) (by kernel_rfl) (by kernel_rfl) (by kernel_rfl) (fun _ _ _ h => h) (Or.inl ⟨by rfl, ?_⟩) hHeld ?_
  rotate_left 1
  · intro W8 hSw
    clear hSw
    go_simp
    all_goals with_reducible rfl
  try simp only [Act.put, List.setIfInBounds_toArray, List.set_cons_zero, List.set_cons_succ]
  refine K_take' (i := 11) (v := ?_) rfl (by kernel_rfl) (by kernel_rfl) (by kernel_rfl) (by kernel_rfl) (fun _ _ _ h => h) (Or.inl ⟨by rfl, ?_⟩) hHeld ?_
  rotate_left 1
  · intro W8 hSw
    clear hSw
    go_simp
    all_goals with_reducible rfl
  try simp only [Act.put, List.setIfInBounds_toArray, List.set_cons_zero, List.set_cons_succ]
  refine K_step' (i := 9) (by kernel_rfl) rfl (fun K hK => ?_)
  go_simp
  refine hK.out _ _ (Kp.mk (show Below w3.heap.size w3 _ from ((Below.refl _ _).alloc (Nat.le_refl _) _).drew)) (fun hHeld2 => ?_)
  clear hK K
  try simp only [Act.put, List.setIfInBounds_toArray, List.set_cons_zero, List.set_cons_succ]
  have hownA := (own_build (w := w3) (base := w3.heap.size) rfl (Nat.le_refl _) [.int .u8 (16 + q), .int .u8 m] 2 rfl (by simp [maxLen])).drew
  have hbW : Below w3.heap.size w3 (w3.alloc (.cells [Value.int .u8 (16 + q), Value.int .u8 m].toArray 5)).drew := ((Below.refl _ _).alloc (Nat.le_refl _) _).drew
  refine K_step' (i := 12) (by kernel_rfl) rfl (fun K hK => ?_)
  refine step_append_lies _ (by rfl) (.tmp 47) (.tmp 49) 22 (by rfl) w3.heap.size 5 i0 (.int .u8 0) 1 1 Try.underlying22 hi hz0 hz1 hz2 rfl (by decide) _ _ _ (by rfl) hownA ⟨bA, oA, none⟩ 6 c xs (by rfl) (by omega) ?_ ?_ (by omega) ?_ ?_ ?_ _ rfl ?_
  · exact fun j u h => (by
      have := HN.out j u h
      rw [WideShapes.add_plain] at this ⊢
      exact ((bcell hbW).1 _ _ hbA3).trans this)
  · rw [HX.out]; exact one_u8 _
  · unfold maxLen; omega
  · omega
  · simp
  intro g cap w4 hown4 hgrow4 _ _
  have hb4 : Below w3.heap.size w3 w4 := hbW.trans (grown_below hownA hgrow4 (by simp))
  refine hK.out _ _ (Kp.mk hb4) (fun hHeld4 => ?_)
  clear hK K
  try simp only [Act.put, List.setIfInBounds_toArray, List.set_cons_zero, List.set_cons_succ]
  have hl4 : Bt w4 (some ⟨g, 0, none⟩) ((16 + q) :: m :: l.take 6) := own_bt (c := cap) (n := 2 + 6) (base := w3.heap.size) (by simpa [HX.out] using hown4)
  refine K_step' (i := 13) (by kernel_rfl) rfl (fun K hK => ?_)
  go_simp
  refine (frame42 (some ⟨g, 0, none⟩) (2 + 6) cap ((16 + q) :: m :: l.take 6) _ (by simp [HL.out] <;> omega) (by omega) hl4).mono ?_
  rintro r w5 ⟨k, rfl, hk0, hk1, hk, hb5⟩
  have hb5' : Below w3.heap.size w3 w5 := hb4.trans (hb5.mono hb4.size)
  refine hK.out _ _ (Kp.mk hb5') (fun hHeld5 => ?_)
  clear hK K
  try simp only [Act.put, List.setIfInBounds_toArray, List.set_cons_zero, List.set_cons_succ]
  have R5 := HR.out.below hb5'
  have G5 := chain HG3.out hb5'
  have B5 := HB3.out.below hb5'
  obtain ⟨r0, r1, r2, r3, r4, r5, r6, r7, r8⟩ := R5.cells9
  obtain ⟨f0, f1, f2, f3, f4, f5, f6, f7, f8⟩ := R5.free9
  have hz5 := R5.1
  have hn1 : w.heap.size ≠ k := by have := hb4.size; omega
  have hk2 : w.heap.size ≤ k := by have := hb4.size; omega
  have HK5 := Lib.hid hk
  clear hHeld hHeld2 hHeld4 hHeld5 s0 s1 s2 s3 s4 s5 s6 s7 s8 hown4 hgrow4 hownA hbW hb4 hb5 hb5' R5 hk hl4
  refine K_step (by kernel_rfl) (by kernel_rfl) rfl (fun K hK => ?_)
  go_simp
  refine hK.out _ _ ?_
  clear hK K
  try simp only [Act.put, List.setIfInBounds_toArray, List.set_cons_zero, List.set_cons_succ]
  refine wpAny_ready (rs := [15]) (by kernel_rfl) (by simp) (AllReady.cons rfl (fun K hK => ?_) AllReady.nil)
  go_simp
  refine hK _ _ ?_
  clear hK K
  try simp only [Act.put, List.setIfInBounds_toArray, List.set_cons_zero, List.set_cons_succ]
  refine wpAny_ready (rs := [16]) (by kernel_rfl) (by simp) (AllReady.cons rfl (fun K hK => ?_) AllReady.nil)
  go_simp
  refine hK _ _ ?_
  clear hK K
  try simp only [Act.put, List.setIfInBounds_toArray, List.set_cons_zero, List.set_cons_succ]
  refine wpAny_done (by kernel_rfl) ?_ _
  go_wp2_with fail
  refine bodyPost_ret (v := .tuple #[.agg #[.slice A1 n c1, .int .i64 6, .int .i64 1, .int .i64 0, .int .i64 0, .bool true, .int .i64 0, .int .i64 (t + 1000000), .bool false], .slice (some ⟨k, 0, none⟩) 8 8, .int .i64 0]) (by simp [results, Try.results19, go_sem, r0, r1, r2, r3, r4, r5, r6, r7, r8, hz5] <;> first | rfl | ((repeat' apply And.intro) <;> rfl)) rfl ⟨A1, c1, _, 8, 8, rfl, hc1, ?_, ?_, ?_, by omega, ?_, ?_, ?_⟩
  · exact B5.set9 (fun b o e => by have := HFR.out b o e; simp at this; omega) _ _ _ _ _ _ _ _ _
  · intro b o e
    have := HFR.out b o e
    simp at this; omega
  · rw [pad_len (by simp [HL.out] <;> omega)]
  · exact HK5.out.set9 (fun b o e => by injection e with e; injection e with e1 _; omega) _ _ _ _ _ _ _ _ _
  · intro b o e
    injection e with e; injection e with e1 _
    omega
  · exact below_set9 G5 (Nat.le_refl _) _ _ _ _ _ _ _ _ _
/-- the state after Send, its frame and its error -/
def sdE (n : Nat) (t : Int) : Int := if msgB n then (if timeB t then 0 else 2) else 1
theorem send19 (A : Option Addr) (n c : Nat) (l : List Int) (t : Int) (w : World) (hl : l.length = n) (hb : Bt w A l) (hc : n ≤ c) :
    Calls Try.prog 19 #[.slice A n c, .int .i64 t] w fun r w' =>
      (msgB n = false ∧ SP 0 0 0 0 0 false 0 0 false [] [] 1 w r w') ∨ (msgB n = true ∧ timeB t = false ∧ SP 0 0 0 0 0 false 0 0 false [] [] 2 w r w') ∨
      (msgB n = true ∧ timeB t = true ∧ n ≤ 7 ∧ SP n n 0 0 0 false 0 0 false l (pad ((n : Int) :: l)) 0 w r w') ∨
      (msgB n = true ∧ timeB t = true ∧ 7 < n ∧ SP n 6 1 0 0 true 0 (t + 1000000) false l (pad ((16 + (n : Int) / 256) :: ((n : Int) % 256) :: l.take 6)) 0 w r w') := by
  cases hm : msgB n
  · exact (send19_arg A n c t w hm).mono fun r w' h => .inl ⟨rfl, h⟩
  · obtain ⟨m0, m1⟩ : 1 ≤ n ∧ n ≤ 1023 := by simpa [msgB] using hm
    cases ht : timeB t
    · exact (send19_range A n c t w hm ht).mono fun r w' h => .inr (.inl ⟨rfl, rfl, h⟩)
    · by_cases h7 : n ≤ 7
      · exact (send19_one A n c l t w hl hb m0 h7 ht).mono fun r w' h => .inr (.inr (.inl ⟨rfl, rfl, h7, h⟩))
      · exact (send19_first A n c l t w hl hb (by omega) m1 hc ht).mono fun r w' h => .inr (.inr (.inr ⟨rfl, rfl, by omega, h⟩))
end Go.Proofs.Ytfjeediecmhedaa
