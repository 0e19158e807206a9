/-
  The contract of the reference's Send. No condition but the slice's shape.
-/
import Derived.Test.YtfjeediecmhedaaAwake
set_option linter.unusedVariables false
set_option linter.unusedSimpArgs false
namespace Go.Proofs.Ytfjeediecmhedaa
open Go.RowKit
theorem Cl.belowB' {B P : Nat} {w w' : World} {vs : List Value} (h : Cl P w vs) (hP : P < B) (hb : Below B w w') : Cl P w' vs :=
  ⟨Nat.lt_of_lt_of_le h.1 hb.size, fun j v e => ⟨((below_cell hb).1 _ _ hP).trans (h.2 j v e).1, ((below_cell hb).2 _ _ hP).trans (h.2 j v e).2⟩⟩
theorem made_at {W : World} {base g : Nat} (hg : g = W.heap.size) (hb : base ≤ W.heap.size) : (W.alloc (.cells #[] 5)).ownsRow base 5 1 (.slice (some ⟨g, 0, none⟩) 0 0) 0 [] := by
  subst hg
  exact World.ownsRow_made _ #[] 0 hb (Nat.zero_le _) rfl
/-- a sender and a frame -/
def SQ (n : Nat) (At Nu Bl Se : Int) (Wt : Bool) (Gp Dl : Int) (Fl : Bool) (l fr : List Int) (w : World) (r : Ending) (w' : World) : Prop :=
  ∃ A c B m d, r = .returned (.tuple #[.agg #[.slice A n c, .int .i64 At, .int .i64 Nu, .int .i64 Bl, .int .i64 Se, .bool Wt, .int .i64 Gp, .int .i64 Dl, .bool Fl], .slice B m d]) ∧ n ≤ c ∧ Bt w' A l ∧ Fr w.heap.size A ∧ m = fr.length ∧ m ≤ d ∧ Bt w' B fr ∧ Fr w.heap.size B ∧ Below w.heap.size w w'
set_option maxRecDepth 100000 in
set_option maxHeartbeats 4000000 in
theorem rsend22_one (A : Option Addr) (n c : Nat) (l : List Int) (t : Int) (w : World) (hl : l.length = n) (hb : Bt w A l) (h0 : 1 ≤ n) (h1 : n ≤ 7) :
    Calls Try.prog 22 #[.slice A n c, .int .i64 t] w (SQ n n 0 0 0 false 0 0 false l (pad ((n : Int) :: l)) w) := by
  have HL := Lib.hid hl
  have HB := Lib.hid hb
  obtain ⟨i0, hi, hz0, hz1, hz2⟩ := info_parts info5
  have u8n : IntKind.u8.wrap (n : Int) = n := u8_of (by omega) (by omega)
  obtain ⟨xs, hxs⟩ : ∃ xs, xs = l.map (Value.int .u8) := ⟨_, rfl⟩
  have HX := Lib.hid hxs
  have hxl : xs.length = n := by rw [hxs]; simp [hl]
  clear hl hb hxs
  obtain ⟨bA, oA, rfl, hbA⟩ := HB.out.addr (by rw [HL.out]; omega)
  have hsz0 : w.heap.size + 1 ≤ (w.alloc (.cells #[.slice none 0 0, .int .i64 0, .int .i64 0, .int .i64 0, .int .i64 0, .bool false, .int .i64 0, .int .i64 0, .bool false] 40)).heap.size := by simp
  have hmade := made_at (W := w.alloc (.cells #[.slice none 0 0, .int .i64 0, .int .i64 0, .int .i64 0, .int .i64 0, .bool false, .int .i64 0, .int .i64 0, .bool false] 40)) (g := w.heap.size + 1) (by simp) hsz0
  go_enter Try.func22, Try.ntmps22
  go_wp2_with (at_builtin; go_loud (refine wpList_append_own _ rfl _ _ 22 rfl (w.heap.size + 1) 5 i0 (.int .u8 0) 1 1 Try.underlying22 hi hz0 hz1 hz2 rfl (by decide) _ 0 [] rfl hmade ⟨bA, oA, none⟩ n c (l.map (Value.int .u8)) rfl (by simp [HL.out]) ?c1 ?c2 ?c3 ?c4 ?c5 ?_))
  case c1 =>
    intro j x hj
    exact (World.cell?_alloc_lt _ _ _ (by simp [WideShapes.add_plain]; omega)).trans ((World.cell?_alloc_lt _ _ _ (by simpa [WideShapes.add_plain] using hbA)).trans (HB.out.news j _ (by simpa using hj)))
  case c2 => simp; intro x _; rfl
  case c3 => simp [maxLen]; omega
  case c4 => omega
  case c5 => simp
  intro v1 w1 hown1 hgrow1 _
  have hb1 : Below (w.heap.size + 1) (w.alloc (.cells #[.slice none 0 0, .int .i64 0, .int .i64 0, .int .i64 0, .int .i64 0, .bool false, .int .i64 0, .int .i64 0, .bool false] 40)) w1 := (show Below (w.heap.size + 1) (w.alloc (.cells #[.slice none 0 0, .int .i64 0, .int .i64 0, .int .i64 0, .int .i64 0, .bool false, .int .i64 0, .int .i64 0, .bool false] 40)) _ from (Below.refl _ _).alloc (by simp) _).grown hgrow1 (by simp) (by intro k hk; simp [Value.ownBlock] at hk; omega)
  have hown : w1.ownsRow (w.heap.size + 1) 5 1 v1 n (l.map (Value.int .u8)) := by simpa using hown1
  obtain ⟨A1, c1, hv1, hc1, hm1, hbt, hfr, hlt⟩ := Own.bt (show Own w1 (w.heap.size + 1) v1 l by unfold Own; rw [HL.out]; exact hown)
  subst hv1
  rw [HL.out] at hc1 ⊢
  have hg1 : Below w.heap.size w w1 := ((Below.refl _ _).alloc (Nat.le_refl _) _).trans (hb1.mono (by omega))
  have hs1 := hb1.size
  simp at hs1
  have hnews := HB.out.news
  rw [← HX.out] at hnews
  have R0 := ((Cl.new (w := w) rfl [.slice none 0 0, .int .i64 0, .int .i64 0, .int .i64 0, .int .i64 0, .bool false, .int .i64 0, .int .i64 0, .bool false] 40).belowB' (B := w.heap.size + 1) (by omega) hb1).below ((Below.refl _ _).alloc (Nat.le_refl _) (.cells #[.slice A1 n c1, .int .i64 n, .int .i64 0, .int .i64 0, .int .i64 0, .bool false, .int .i64 0, .int .i64 0, .bool false] 40))
  have B3 := hbt.below ((Below.refl _ _).alloc (Nat.le_refl _) (.cells #[.slice A1 n c1, .int .i64 n, .int .i64 0, .int .i64 0, .int .i64 0, .bool false, .int .i64 0, .int .i64 0, .bool false] 40))
  have G3 : Below w.heap.size w (w1.alloc (.cells #[.slice A1 n c1, .int .i64 n, .int .i64 0, .int .i64 0, .int .i64 0, .bool false, .int .i64 0, .int .i64 0, .bool false] 40)) := hg1.alloc hg1.size _
  go_upto_region 5 with fail
  obtain ⟨w3, hw3⟩ : ∃ w3, w3 = w1.alloc (.cells #[.slice A1 n c1, .int .i64 n, .int .i64 0, .int .i64 0, .int .i64 0, .bool false, .int .i64 0, .int .i64 0, .bool false] 40) := ⟨_, rfl⟩
  have z3 : w3.heap.size = w1.heap.size + 1 := by rw [hw3]; simp
  have Z3 := Lib.hid z3
  have zS : w1.heap.size < w3.heap.size := by omega
  have zR : w.heap.size + 1 < w3.heap.size := by omega
  have zR' : w.heap.size < w3.heap.size := by omega
  have S3 : Cl w1.heap.size w3 [.slice A1 n c1, .int .i64 n, .int .i64 0, .int .i64 0, .int .i64 0, .bool false, .int .i64 0, .int .i64 0, .bool false] := by rw [hw3]; exact Cl.new rfl _ 40
  have R3 : Cl w.heap.size w3 [.slice none 0 0, .int .i64 0, .int .i64 0, .int .i64 0, .int .i64 0, .bool false, .int .i64 0, .int .i64 0, .bool false] := by rw [hw3]; exact R0
  have HB3 : Hid (Bt w3 A1 l) := Lib.hid (by rw [hw3]; exact B3)
  have HG3 : Hid (Below w.heap.size w w3) := Lib.hid (by rw [hw3]; exact G3)
  rw [← hw3]
  have hnews3 : ∀ j u, xs[j]? = some u → w3.cell? ((⟨bA, oA, none⟩ : Addr).add j) = some u := fun j u h => by
    have := hnews j u h
    rw [WideShapes.add_plain] at this ⊢
    exact ((bcell HG3.out).1 _ _ hbA).trans this
  have hbA3 : bA < w3.heap.size := by have := HG3.out.size; omega
  have HN := Lib.hid hnews3
  obtain ⟨s0, s1, s2, s3, s4, s5, s6, s7, s8⟩ := S3.cells9
  have HR := Lib.hid R3
  have HFR := Lib.hid hfr
  clear R0 B3 G3 hw3 z3 hnews hnews3 S3 R3 hbt hfr hlt hown hb1 hg1 hown1 hgrow1 hmade hsz0
  refine region_K (fun W' => (∀ b o, b < w3.heap.size → W'.cell? ⟨b, o, none⟩ = w3.cell? ⟨b, o, none⟩) ∧ Below w3.heap.size w3 W') 7 (by kernel_rfl) (Kp.mk (Below.refl _ _).drew) (fun hHeld => ?_)
  refine K_take (i := 0) (v := ?_) rfl (by kernel_rfl) (by kernel_rfl) (by kernel_rfl) (by kernel_rfl) (by kernel_rfl) (fun _ _ _ h => h) (Or.inl ⟨by rfl, ?_⟩) hHeld ?_
  rotate_left 1
  · intro W8 hSw
    (try dsimp only at hSw)
    go_simp
    all_goals with_reducible rfl
  try simp only [Act.put, List.setIfInBounds_toArray, List.set_cons_zero, List.set_cons_succ]
  refine K_take' (i := 1) (v := ?_) rfl (by kernel_rfl) (by kernel_rfl) (by kernel_rfl) (by kernel_rfl) (fun _ _ _ h => h) (Or.inl ⟨by rfl, ?_⟩) hHeld ?_
  rotate_left 1
  · intro W8 hSw
    clear hSw
    go_simp
    all_goals with_reducible rfl
  try simp only [Act.put, List.setIfInBounds_toArray, List.set_cons_zero, List.set_cons_succ]
  refine K_take' (i := 2) (v := ?_) rfl (by kernel_rfl) (by kernel_rfl) (by kernel_rfl) (by kernel_rfl) (fun _ _ _ h => h) (Or.inl ⟨by rfl, ?_⟩) hHeld ?_
  rotate_left 1
  · intro W8 hSw
    clear hSw
    go_simp
    all_goals with_reducible rfl
  try simp only [Act.put, List.setIfInBounds_toArray, List.set_cons_zero, List.set_cons_succ]
  refine K_take' (i := 4) (v := ?_) rfl (by kernel_rfl) (by kernel_rfl) (by kernel_rfl) (by kernel_rfl) (fun _ _ _ h => h) (Or.inl ⟨by rfl, ?_⟩) hHeld ?_
  rotate_left 1
  · intro W8 hSw
    clear hSw
    go_simp
    all_goals with_reducible rfl
  try simp only [Act.put, List.setIfInBounds_toArray, List.set_cons_zero, List.set_cons_succ]
  refine K_step' (i := 3) (by kernel_rfl) rfl (fun K hK => ?_)
  go_simp
  refine hK.out _ _ (Kp.mk (show Below w3.heap.size w3 _ from ((Below.refl _ _).alloc (Nat.le_refl _) _).drew)) (fun hHeld2 => ?_)
  clear hK K
  try simp only [Act.put, List.setIfInBounds_toArray, List.set_cons_zero, List.set_cons_succ]
  have hownA := (own_build (w := w3) (base := w3.heap.size) rfl (Nat.le_refl _) [.int .u8 (n : Int)] 1 rfl (by simp [maxLen])).drew
  have hbW : Below w3.heap.size w3 (w3.alloc (.cells [Value.int .u8 (n : Int)].toArray 5)).drew := ((Below.refl _ _).alloc (Nat.le_refl _) _).drew
  refine K_step' (i := 5) (by kernel_rfl) rfl (fun K hK => ?_)
  refine step_append_lies _ (by rfl) (.tmp 21) (.tmp 22) 22 (by rfl) w3.heap.size 5 i0 (.int .u8 0) 1 1 Try.underlying22 hi hz0 hz1 hz2 rfl (by decide) _ _ _ (by simp [Act.eval, Act.put] <;> rfl) hownA ⟨bA, oA, none⟩ n c xs (by simp [Act.eval, Act.put] <;> rfl) (by omega) ?_ ?_ (by omega) ?_ ?_ ?_ _ rfl ?_
  · exact fun j u h => (by
      have := HN.out j u h
      rw [WideShapes.add_plain] at this ⊢
      exact ((bcell hbW).1 _ _ hbA3).trans this)
  · rw [HX.out]; exact one_u8 _
  · unfold maxLen; omega
  · omega
  · simp
  intro g cap w4 hown4 hgrow4 _ _
  have hb4 : Below w3.heap.size w3 w4 := hbW.trans (grown_below hownA hgrow4 (by simp))
  refine hK.out _ _ (Kp.mk hb4) (fun hHeld4 => ?_)
  clear hK K
  try simp only [Act.put, List.setIfInBounds_toArray, List.set_cons_zero, List.set_cons_succ]
  have hl4 : Bt w4 (some ⟨g, 0, none⟩) ((n : Int) :: l) := own_bt (c := cap) (n := 1 + n) (base := w3.heap.size) (by simpa [HX.out] using hown4)
  refine K_step' (i := 6) (by kernel_rfl) rfl (fun K hK => ?_)
  go_simp
  refine (frame40 ⟨g, 0, none⟩ (1 + n) cap ((n : Int) :: l) _ (by simp [HL.out]; omega) hl4 (by omega)).mono ?_
  rintro r w5 ⟨v5, rfl, hv5, hb5⟩
  obtain ⟨KA, kc, rfl, hkc, _, hkb, hkf0, _⟩ := hv5.bt
  rw [pad_len (by simp [HL.out]; omega)] at hkc ⊢
  have hb5' : Below w3.heap.size w3 w5 := hb4.trans (hb5.mono hb4.size)
  have hkf : Fr (w.heap.size + 1) KA := fun b o e => by have h1 := hkf0 b o e; have h2 : w3.heap.size ≤ w4.heap.size := hb4.size; omega
  refine hK.out _ _ (Kp.mk hb5') (fun hHeld5 => ?_)
  clear hK K hHeld5 hl4 hkf0 hv5 hb5
  try simp only [Act.put, List.setIfInBounds_toArray, List.set_cons_zero, List.set_cons_succ]
  have R5 := HR.out.below hb5'
  have G5 := chain HG3.out hb5'
  have B5 := HB3.out.below hb5'
  obtain ⟨r0, r1, r2, r3, r4, r5, r6, r7, r8⟩ := R5.cells9
  obtain ⟨f0, f1, f2, f3, f4, f5, f6, f7, f8⟩ := R5.free9
  have hz5 := R5.1
  have s34 : w3.heap.size ≤ w4.heap.size := hb4.size
  have HKB := Lib.hid hkb
  have HKF := Lib.hid hkf
  clear hHeld hHeld2 hHeld4 s0 s1 s2 s3 s4 s5 s6 s7 s8 hown4 hgrow4 hownA hbW hb4 hb5' R5 hkb hkf
  refine K_step (by kernel_rfl) (by kernel_rfl) rfl (fun K hK => ?_)
  go_simp
  refine hK.out _ _ ?_
  clear hK K
  try simp only [Act.put, List.setIfInBounds_toArray, List.set_cons_zero, List.set_cons_succ]
  refine wpAny_ready (rs := [8]) (by kernel_rfl) (by simp) (AllReady.cons rfl (fun K hK => ?_) AllReady.nil)
  go_simp
  refine hK _ _ ?_
  clear hK K
  try simp only [Act.put, List.setIfInBounds_toArray, List.set_cons_zero, List.set_cons_succ]
  refine wpAny_done (by kernel_rfl) ?_ _
  go_wp2_with fail
  refine bodyPost_ret (v := .tuple #[.agg #[.slice A1 n c1, .int .i64 n, .int .i64 0, .int .i64 0, .int .i64 0, .bool false, .int .i64 0, .int .i64 0, .bool false], .slice KA 8 kc]) (by simp [results, Try.results22, go_sem, r0, r1, r2, r3, r4, r5, r6, r7, r8, hz5] <;> first | rfl | ((repeat' apply And.intro) <;> rfl)) rfl ⟨A1, c1, KA, 8, kc, rfl, hc1, ?_, ?_, ?_, hkc, ?_, ?_, ?_⟩
  · exact B5.set9 (fun b o e => by have := HFR.out b o e; omega) _ _ _ _ _ _ _ _ _
  · intro b o e
    have := HFR.out b o e
    omega
  · rw [pad_len (by simp [HL.out] <;> omega)]
  · exact HKB.out.set9 (fun b o e => by have := HKF.out b o e; omega) _ _ _ _ _ _ _ _ _
  · intro b o e
    have := HKF.out b o e
    omega
  · exact below_set9 G5 (Nat.le_refl _) _ _ _ _ _ _ _ _ _
set_option maxRecDepth 100000 in
set_option maxHeartbeats 4000000 in
theorem rsend22_first (A : Option Addr) (n c : Nat) (l : List Int) (t : Int) (w : World) (hl : l.length = n) (hb : Bt w A l) (h0 : 8 ≤ n) (h1 : n ≤ 1023) (hc : n ≤ c) (t0 : 0 ≤ t) (t1 : t ≤ 1099511627776) :
    Calls Try.prog 22 #[.slice A n c, .int .i64 t] w (SQ n 6 1 0 0 true 0 (t + 1000000) false l (pad ((16 + (n : Int) / 256) :: ((n : Int) % 256) :: l.take 6)) w) := by
  obtain ⟨q, hq⟩ : ∃ q, (n : Int) / 256 = q := ⟨_, rfl⟩
  obtain ⟨m, hm⟩ : ∃ m, (n : Int) % 256 = m := ⟨_, rfl⟩
  have q03 : 0 ≤ q ∧ q ≤ 3 := by omega
  have m03 : 0 ≤ m ∧ m ≤ 255 := by omega
  rw [hq, hm]
  have hu1 : IntKind.u8.wrap (16 + q) = 16 + q := u8_of (by omega) (by omega)
  have hu2 : IntKind.u8.wrap m = m := u8_of m03.1 m03.2
  have hw1 : IntKind.i64.wrap (16 + q) = 16 + q := IntWalk.i64_in _ (by omega)
  have hw2 : IntKind.i64.wrap q = q := IntWalk.i64_in _ (by omega)
  have hw3' : IntKind.i64.wrap m = m := IntWalk.i64_in _ (by omega)
  have hd1 : (n : Int).tdiv 256 = q := by rw [Int.tdiv_eq_ediv_of_nonneg (by omega)]; exact hq
  have hd2 : (n : Int).tmod 256 = m := by rw [Int.tmod_eq_emod_of_nonneg (by omega)]; exact hm
  have hc6 : (6 : Int) ≤ (c : Int) := by omega
  have HL := Lib.hid hl
  have HB := Lib.hid hb
  obtain ⟨i0, hi, hz0, hz1, hz2⟩ := info_parts info5
  obtain ⟨xs, hxs⟩ : ∃ xs, xs = (l.take 6).map (Value.int .u8) := ⟨_, rfl⟩
  have HX := Lib.hid hxs
  have hxl : xs.length = 6 := by rw [hxs]; simp; omega
  clear hl hb hxs
  obtain ⟨bA, oA, rfl, hbA⟩ := HB.out.addr (by rw [HL.out]; omega)
  have hsz0 : w.heap.size + 1 ≤ (w.alloc (.cells #[.slice none 0 0, .int .i64 0, .int .i64 0, .int .i64 0, .int .i64 0, .bool false, .int .i64 0, .int .i64 0, .bool false] 40)).heap.size := by simp
  have hmade := made_at (W := w.alloc (.cells #[.slice none 0 0, .int .i64 0, .int .i64 0, .int .i64 0, .int .i64 0, .bool false, .int .i64 0, .int .i64 0, .bool false] 40)) (g := w.heap.size + 1) (by simp) hsz0
  go_enter Try.func22, Try.ntmps22
  go_wp2_with (at_builtin; go_loud (refine wpList_append_own _ rfl _ _ 22 rfl (w.heap.size + 1) 5 i0 (.int .u8 0) 1 1 Try.underlying22 hi hz0 hz1 hz2 rfl (by decide) _ 0 [] rfl hmade ⟨bA, oA, none⟩ n c (l.map (Value.int .u8)) rfl (by simp [HL.out]) ?c1 ?c2 ?c3 ?c4 ?c5 ?_))
  case c1 =>
    intro j x hj
    exact (World.cell?_alloc_lt _ _ _ (by simp [WideShapes.add_plain]; omega)).trans ((World.cell?_alloc_lt _ _ _ (by simpa [WideShapes.add_plain] using hbA)).trans (HB.out.news j _ (by simpa using hj)))
  case c2 => simp; intro x _; rfl
  case c3 => simp [maxLen]; omega
  case c4 => omega
  case c5 => simp
  intro v1 w1 hown1 hgrow1 _
  have hb1 : Below (w.heap.size + 1) (w.alloc (.cells #[.slice none 0 0, .int .i64 0, .int .i64 0, .int .i64 0, .int .i64 0, .bool false, .int .i64 0, .int .i64 0, .bool false] 40)) w1 := (show Below (w.heap.size + 1) (w.alloc (.cells #[.slice none 0 0, .int .i64 0, .int .i64 0, .int .i64 0, .int .i64 0, .bool false, .int .i64 0, .int .i64 0, .bool false] 40)) _ from (Below.refl _ _).alloc (by simp) _).grown hgrow1 (by simp) (by intro k hk; simp [Value.ownBlock] at hk; omega)
  have hown : w1.ownsRow (w.heap.size + 1) 5 1 v1 n (l.map (Value.int .u8)) := by simpa using hown1
  obtain ⟨A1, c1, hv1, hc1, hm1, hbt, hfr, hlt⟩ := Own.bt (show Own w1 (w.heap.size + 1) v1 l by unfold Own; rw [HL.out]; exact hown)
  subst hv1
  rw [HL.out] at hc1 ⊢
  have hg1 : Below w.heap.size w w1 := ((Below.refl _ _).alloc (Nat.le_refl _) _).trans (hb1.mono (by omega))
  have hs1 := hb1.size
  simp at hs1
  have hnews := (HB.out.sub 0 6).news
  rw [List.drop_zero, ← HX.out, Nat.add_zero] at hnews
  have R0 := ((Cl.new (w := w) rfl [.slice none 0 0, .int .i64 0, .int .i64 0, .int .i64 0, .int .i64 0, .bool false, .int .i64 0, .int .i64 0, .bool false] 40).belowB' (B := w.heap.size + 1) (by omega) hb1).below ((Below.refl _ _).alloc (Nat.le_refl _) (.cells #[.slice A1 n c1, .int .i64 6, .int .i64 1, .int .i64 0, .int .i64 0, .bool true, .int .i64 0, .int .i64 (t + 1000000), .bool false] 40))
  have B3 := hbt.below ((Below.refl _ _).alloc (Nat.le_refl _) (.cells #[.slice A1 n c1, .int .i64 6, .int .i64 1, .int .i64 0, .int .i64 0, .bool true, .int .i64 0, .int .i64 (t + 1000000), .bool false] 40))
  have G3 : Below w.heap.size w (w1.alloc (.cells #[.slice A1 n c1, .int .i64 6, .int .i64 1, .int .i64 0, .int .i64 0, .bool true, .int .i64 0, .int .i64 (t + 1000000), .bool false] 40)) := hg1.alloc hg1.size _
  go_upto_region 7 with fail
  obtain ⟨w3, hw3⟩ : ∃ w3, w3 = w1.alloc (.cells #[.slice A1 n c1, .int .i64 6, .int .i64 1, .int .i64 0, .int .i64 0, .bool true, .int .i64 0, .int .i64 (t + 1000000), .bool false] 40) := ⟨_, rfl⟩
  have z3 : w3.heap.size = w1.heap.size + 1 := by rw [hw3]; simp
  have Z3 := Lib.hid z3
  have zS : w1.heap.size < w3.heap.size := by omega
  have zR : w.heap.size + 1 < w3.heap.size := by omega
  have zR' : w.heap.size < w3.heap.size := by omega
  have S3 : Cl w1.heap.size w3 [.slice A1 n c1, .int .i64 6, .int .i64 1, .int .i64 0, .int .i64 0, .bool true, .int .i64 0, .int .i64 (t + 1000000), .bool false] := by rw [hw3]; exact Cl.new rfl _ 40
  have R3 : Cl w.heap.size w3 [.slice none 0 0, .int .i64 0, .int .i64 0, .int .i64 0, .int .i64 0, .bool false, .int .i64 0, .int .i64 0, .bool false] := by rw [hw3]; exact R0
  have HB3 : Hid (Bt w3 A1 l) := Lib.hid (by rw [hw3]; exact B3)
  have HG3 : Hid (Below w.heap.size w w3) := Lib.hid (by rw [hw3]; exact G3)
  rw [← hw3]
  have hnews3 : ∀ j u, xs[j]? = some u → w3.cell? ((⟨bA, oA, none⟩ : Addr).add j) = some u := fun j u h => by
    have := hnews j u h
    rw [WideShapes.add_plain] at this ⊢
    exact ((bcell HG3.out).1 _ _ hbA).trans this
  have hbA3 : bA < w3.heap.size := by have := HG3.out.size; omega
  have HN := Lib.hid hnews3
  obtain ⟨s0, s1, s2, s3, s4, s5, s6, s7, s8⟩ := S3.cells9
  have HR := Lib.hid R3
  have HFR := Lib.hid hfr
  clear R0 B3 G3 hw3 z3 hnews hnews3 S3 R3 hbt hfr hlt hown hb1 hg1 hown1 hgrow1 hmade hsz0
  refine region_K (fun W' => (∀ b o, b < w3.heap.size → W'.cell? ⟨b, o, none⟩ = w3.cell? ⟨b, o, none⟩) ∧ Below w3.heap.size w3 W') 12 (by kernel_rfl) (Kp.mk (Below.refl _ _).drew) (fun hHeld => ?_)
  refine K_take (i := 0) (v := ?_) rfl (by kernel_rfl) (by kernel_rfl) (by kernel_rfl) (by kernel_rfl) (by kernel_rfl) (fun _ _ _ h => h) (Or.inl ⟨by rfl, ?_⟩) hHeld ?_
  rotate_left 1
  · intro W8 hSw
    (try dsimp only at hSw)
    go_simp
    all_goals with_reducible rfl
  try simp only [Act.put, List.setIfInBounds_toArray, List.set_cons_zero, List.set_cons_succ]
  refine K_take' (i := 1) (v := ?_) rfl (by kernel_rfl) (by kernel_rfl) (by kernel_rfl) (by kernel_rfl) (fun _ _ _ h => h) (Or.inl ⟨by rfl, ?_⟩) hHeld ?_
  rotate_left 1
  · intro W8 hSw
    clear hSw
    go_simp
    all_goals with_reducible rfl
  try simp only [Act.put, List.setIfInBounds_toArray, List.set_cons_zero, List.set_cons_succ]
  refine K_take' (i := 2) (v := ?_) rfl (by kernel_rfl) (by kernel_rfl) (by kernel_rfl) (by kernel_rfl) (fun _ _ _ h => h) (Or.inl ⟨by rfl, ?_⟩) hHeld ?_
  rotate_left 1
  · intro W8 hSw
    clear hSw
    go_simp
    all_goals with_reducible rfl
  try simp only [Act.put, List.setIfInBounds_toArray, List.set_cons_zero, List.set_cons_succ]
  refine K_take' (i := 3) (v := ?_) rfl (by kernel_rfl) (by kernel_rfl) (by kernel_rfl) (by kernel_rfl) (fun _ _ _ h => h) (Or.inl ⟨by rfl, ?_⟩) hHeld ?_
  rotate_left 1
  · intro W8 hSw
    clear hSw
    go_simp
    all_goals with_reducible rfl
  try simp only [Act.put, List.setIfInBounds_toArray, List.set_cons_zero, List.set_cons_succ]
  refine K_take' (i := 4) (v := ?_) rfl (by kernel_rfl) (by kernel_rfl) (by kernel_rfl) (by kernel_rfl) (fun _ _ _ h => h) (Or.inl ⟨by rfl, ?_⟩) hHeld ?_
  rotate_left 1
  · intro W8 hSw
    clear hSw
    go_simp
    all_goals with_reducible rfl
  try simp only [Act.put, List.setIfInBounds_toArray, List.set_cons_zero, List.set_cons_succ]
  refine K_take' (i := 5) (v := ?_) rfl (by kernel_rfl) (by kernel_rfl) (by kernel_rfl) (by kernel_rfl) (fun _ _ _ h => h) (Or.inl ⟨by rfl, ?_⟩) hHeld ?_
  rotate_left 1
  · intro W8 hSw
    clear hSw
    go_simp
    all_goals with_reducible rfl
  try simp only [Act.put, List.setIfInBounds_toArray, List.set_cons_zero, List.set_cons_succ]
  refine K_take' (i := 6) (v := ?_) rfl (by kernel_rfl) (by kernel_rfl) (by kernel_rfl) (by kernel_rfl) (fun _ _ _ h => h) (Or.inl ⟨by rfl, ?_⟩) hHeld ?_
  rotate_left 1
  · intro W8 hSw
    clear hSw
    go_simp
    all_goals with_reducible rfl
  try simp only [Act.put, List.setIfInBounds_toArray, List.set_cons_zero, List.set_cons_succ]
  refine K_take' (i := 7) (v := ?_) rfl (by kernel_rfl) (by kernel_rfl) (by kernel_rfl) (by kernel_rfl) (fun _ _ _ h => h) (Or.inl ⟨by rfl, ?_⟩) hHeld ?_
  rotate_left 1
  · intro W8 hSw
    clear hSw
    go_simp
    all_goals with_reducible rfl
  try simp only [Act.put, List.setIfInBounds_toArray, List.set_cons_zero, List.set_cons_succ]
  refine K_take' (i := 9) (v := ?_) rfl (by kernel_rfl) (by kernel_rfl) (by kernel_rfl) (by kernel_rfl) (fun _ _ _ h => h) (Or.inl ⟨by rfl, ?_⟩) hHeld ?_
  rotate_left 1
  · intro W8 hSw
    clear hSw
    go_simp
    all_goals with_reducible rfl
  try simp only [Act.put, List.setIfInBounds_toArray, List.set_cons_zero, List.set_cons_succ]
  refine K_take' (i := 10) (v := ?_) rfl (by kernel_rfl) (by kernel_rfl) (by kernel_rfl) (by kernel_rfl) (fun _ _ _ h => h) (Or.inl ⟨by rfl, ?_⟩) hHeld ?_
  rotate_left 1
  · intro W8 hSw
    clear hSw
    go_simp
    all_goals with_reducible rfl
  try simp only [Act.put, List.setIfInBounds_toArray, List.set_cons_zero, List.set_cons_succ]
  refine K_step' (i := 8) (by kernel_rfl) rfl (fun K hK => ?_)
  go_simp
  refine hK.out _ _ (Kp.mk (show Below w3.heap.size w3 _ from ((Below.refl _ _).alloc (Nat.le_refl _) _).drew)) (fun hHeld2 => ?_)
  clear hK K
  try simp only [Act.put, List.setIfInBounds_toArray, List.set_cons_zero, List.set_cons_succ]
  have hownA := (own_build (w := w3) (base := w3.heap.size) rfl (Nat.le_refl _) [.int .u8 (16 + q), .int .u8 m] 2 rfl (by simp [maxLen])).drew
  have hbW : Below w3.heap.size w3 (w3.alloc (.cells [Value.int .u8 (16 + q), Value.int .u8 m].toArray 5)).drew := ((Below.refl _ _).alloc (Nat.le_refl _) _).drew
  refine K_step' (i := 11) (by kernel_rfl) rfl (fun K hK => ?_)
  refine step_append_lies _ (by rfl) (.tmp 39) (.tmp 41) 22 (by rfl) w3.heap.size 5 i0 (.int .u8 0) 1 1 Try.underlying22 hi hz0 hz1 hz2 rfl (by decide) _ _ _ (by simp [Act.eval, Act.put] <;> rfl) hownA ⟨bA, oA, none⟩ 6 c xs (by simp [Act.eval, Act.put] <;> rfl) (by omega) ?_ ?_ (by omega) ?_ ?_ ?_ _ rfl ?_
  · exact fun j u h => (by
      have := HN.out j u h
      rw [WideShapes.add_plain] at this ⊢
      exact ((bcell hbW).1 _ _ hbA3).trans this)
  · rw [HX.out]; exact one_u8 _
  · unfold maxLen; omega
  · omega
  · simp
  intro g cap w4 hown4 hgrow4 _ _
  have hb4 : Below w3.heap.size w3 w4 := hbW.trans (grown_below hownA hgrow4 (by simp))
  refine hK.out _ _ (Kp.mk hb4) (fun hHeld4 => ?_)
  clear hK K
  try simp only [Act.put, List.setIfInBounds_toArray, List.set_cons_zero, List.set_cons_succ]
  have hb5' : Below w3.heap.size w3 w4 := hb4
  have hkb : Bt w4 (some ⟨g, 0, none⟩) (pad ((16 + q) :: m :: l.take 6)) := by
    have e : pad ((16 + q) :: m :: l.take 6) = (16 + q) :: m :: l.take 6 := by unfold pad; simp [HL.out]; omega
    rw [e]
    exact own_bt (c := cap) (n := 2 + 6) (base := w3.heap.size) (by simpa [HX.out] using hown4)
  have hgo := own_ge hown4 g rfl
  have hkf : Fr (w.heap.size + 1) (some ⟨g, 0, none⟩) := fun b o e => by injection e with e; injection e with e1 _; omega
  have hkc : 8 ≤ cap := by
    obtain ⟨g', cap', hv, _, _, h, _⟩ := own_form hown4 (by omega)
    injection hv with _ _ hv
    omega
  have R5 := HR.out.below hb5'
  have G5 := chain HG3.out hb5'
  have B5 := HB3.out.below hb5'
  obtain ⟨r0, r1, r2, r3, r4, r5, r6, r7, r8⟩ := R5.cells9
  obtain ⟨f0, f1, f2, f3, f4, f5, f6, f7, f8⟩ := R5.free9
  have hz5 := R5.1
  have s34 : w3.heap.size ≤ w4.heap.size := hb4.size
  have HKB := Lib.hid hkb
  have HKF := Lib.hid hkf
  clear hHeld hHeld2 hHeld4 s0 s1 s2 s3 s4 s5 s6 s7 s8 hown4 hgrow4 hownA hbW hb4 hb5' R5 hkb hkf
  refine K_step (by kernel_rfl) (by kernel_rfl) rfl (fun K hK => ?_)
  go_simp
  refine hK.out _ _ ?_
  clear hK K
  try simp only [Act.put, List.setIfInBounds_toArray, List.set_cons_zero, List.set_cons_succ]
  refine wpAny_ready (rs := [13]) (by kernel_rfl) (by simp) (AllReady.cons rfl (fun K hK => ?_) AllReady.nil)
  go_simp
  refine hK _ _ ?_
  clear hK K
  try simp only [Act.put, List.setIfInBounds_toArray, List.set_cons_zero, List.set_cons_succ]
  refine wpAny_done (by kernel_rfl) ?_ _
  go_wp2_with fail
  refine bodyPost_ret (v := .tuple #[.agg #[.slice A1 n c1, .int .i64 6, .int .i64 1, .int .i64 0, .int .i64 0, .bool true, .int .i64 0, .int .i64 (t + 1000000), .bool false], .slice (some ⟨g, 0, none⟩) 8 cap]) (by simp [results, Try.results22, go_sem, r0, r1, r2, r3, r4, r5, r6, r7, r8, hz5] <;> first | rfl | ((repeat' apply And.intro) <;> rfl)) rfl ⟨A1, c1, (some ⟨g, 0, none⟩), 8, cap, rfl, hc1, ?_, ?_, ?_, hkc, ?_, ?_, ?_⟩
  · exact B5.set9 (fun b o e => by have := HFR.out b o e; omega) _ _ _ _ _ _ _ _ _
  · intro b o e
    have := HFR.out b o e
    omega
  · rw [pad_len (by simp [HL.out] <;> omega)]
  · exact HKB.out.set9 (fun b o e => by have := HKF.out b o e; omega) _ _ _ _ _ _ _ _ _
  · intro b o e
    have := HKF.out b o e
    omega
  · exact below_set9 G5 (Nat.le_refl _) _ _ _ _ _ _ _ _ _
/-- the reference's Send of a message at a time -/
theorem rsend22 (A : Option Addr) (n c : Nat) (l : List Int) (t : Int) (w : World) (hl : l.length = n) (hb : Bt w A l) (hc : n ≤ c) (hm : msgB n = true) (ht : timeB t = true) :
    Calls Try.prog 22 #[.slice A n c, .int .i64 t] w fun r w' =>
      (n ≤ 7 ∧ SQ n n 0 0 0 false 0 0 false l (pad ((n : Int) :: l)) w r w') ∨
      (7 < n ∧ SQ n 6 1 0 0 true 0 (t + 1000000) false l (pad ((16 + (n : Int) / 256) :: ((n : Int) % 256) :: l.take 6)) w r w') := by
  obtain ⟨m0, m1⟩ : 1 ≤ n ∧ n ≤ 1023 := by simpa [msgB] using hm
  obtain ⟨t0, t1⟩ := inB_t (show inB t 0 1099511627776 = true from ht)
  by_cases h7 : n ≤ 7
  · exact (rsend22_one A n c l t w hl hb m0 h7).mono fun r w' h => .inl ⟨h7, h⟩
  · exact (rsend22_first A n c l t w hl hb (by omega) m1 hc t0 t1).mono fun r w' h => .inr ⟨by omega, h⟩
end Go.Proofs.Ytfjeediecmhedaa
