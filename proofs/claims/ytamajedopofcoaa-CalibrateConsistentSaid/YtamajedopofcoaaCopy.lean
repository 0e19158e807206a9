/-
  The contract of copyPages. No condition but the slices' shape.
-/
import Derived.Test.YtamajedopofcoaaVar
set_option linter.unusedVariables false
set_option linter.unusedSimpArgs false
namespace Go.Proofs.Ytamajedopofcoaa
open Go.RowKit
set_option maxRecDepth 100000 in
set_option maxHeartbeats 16000000 in
theorem copy36 (A : Option Addr) (n c : Nat) (A2 : Option Addr) (n2 c2 : Nat) (Ac Pe : Int) (A3 : Option Addr) (m c3 : Nat) (R W : List Int) (ch : List (Int × Int)) (w : World) (hl : R.length = n) (hb : Ik .i64 w A R) (hc : n ≤ c) (hl2 : W.length = n2) (hb2 : Ik .i64 w A2 W) (hc2 : n2 ≤ c2) (hl3 : ch.length = m) (hb3 : Ik .i64 w A3 (flat ch)) (hc3 : m ≤ c3) (hs : n ≤ 5000) (hs2 : n2 ≤ 5000) (hs3 : m ≤ 5000) : Calls Try.prog 36 #[.agg #[.slice A n c, .slice A2 n2 c2, .int .i64 Ac, .int .i64 Pe, .slice A3 m c3]] w (PC R W Ac Pe ch w) := by
  have K1 := fun w h => clone27 A n c R w hl h (by omega) hc
  have K2 := fun w h => clone27 A2 n2 c2 W w hl2 h (by omega) hc2
  have K3 := fun w h => clone46 A3 m c3 ch w hl3 h (by omega) hc3
  replace K1 := Lib.hid K1
  replace K2 := Lib.hid K2
  replace K3 := Lib.hid K3
  have C1 := (Cl.new (w := w) rfl [.slice A n c, .slice A2 n2 c2, .int .i64 Ac, .int .i64 Pe, .slice A3 m c3] 25).below ((Below.refl _ _).alloc (Nat.le_refl _) (.cells #[.slice none 0 0, .slice none 0 0, .int .i64 0, .int .i64 0, .slice none 0 0] 25))
  have C2 := Cl.new (w := w.alloc (.cells #[.slice A n c, .slice A2 n2 c2, .int .i64 Ac, .int .i64 Pe, .slice A3 m c3] 25)) rfl [.slice none 0 0, .slice none 0 0, .int .i64 0, .int .i64 0, .slice none 0 0] 25
  have G8 : Below w.heap.size w ((w.alloc (.cells #[.slice A n c, .slice A2 n2 c2, .int .i64 Ac, .int .i64 Pe, .slice A3 m c3] 25)).alloc (.cells #[.slice none 0 0, .slice none 0 0, .int .i64 0, .int .i64 0, .slice none 0 0] 25)) := by go_grown
  have HB8 := Lib.hid (hb.below G8)
  have HB28 := Lib.hid (hb2.below G8)
  have HB38 := Lib.hid (hb3.below G8)
  have HG8 := Lib.hid G8
  have HC1 := Lib.hid C1
  have HC2 := Lib.hid C2
  clear hl hl2 hl3 hb hb2 hb3 C1 C2 G8
  go_enter Try.func36, Try.ntmps36
  go_upto_region 1 with fail
  obtain ⟨w8, hw8⟩ : ∃ wx, wx = (w.alloc (.cells #[.slice A n c, .slice A2 n2 c2, .int .i64 Ac, .int .i64 Pe, .slice A3 m c3] 25)).alloc (.cells #[.slice none 0 0, .slice none 0 0, .int .i64 0, .int .i64 0, .slice none 0 0] 25) := ⟨_, rfl⟩
  have hQ : (w.alloc (.cells #[.slice A n c, .slice A2 n2 c2, .int .i64 Ac, .int .i64 Pe, .slice A3 m c3] 25)).heap.size = w.heap.size + 1 := by simp
  have hz8 : w8.heap.size = w.heap.size + 2 := by rw [hw8]; simp
  rw [hQ] at HC2
  rw [← hw8] at HB8 HB28 HB38 HG8 HC1 HC2 ⊢
  have HZ8 := Lib.hid hz8
  clear hw8 hQ hz8
  have hP8 : w.heap.size < w8.heap.size := HC1.out.1
  have p0 := HC1.out.c 0 rfl
  have p1 := HC1.out.c 1 rfl
  have p2 := HC1.out.c 2 rfl
  have p3 := HC1.out.c 3 rfl
  have p4 := HC1.out.c 4 rfl
  refine region_K (fun W' => (∀ b o, b < w8.heap.size → W'.cell? ⟨b, o, none⟩ = w8.cell? ⟨b, o, none⟩) ∧ Below w8.heap.size w8 W') 8 (by kernel_rfl) (Kp.mk (Below.refl _ _).drew) (fun hHeld => ?_)
  refine K_take' (i := 0) (v := ?_) rfl (by kernel_rfl) (by kernel_rfl) (by kernel_rfl) (by kernel_rfl) (fun _ _ _ h => h) (Or.inl ⟨by kernel_rfl, ?_⟩) hHeld ?_
  rotate_left 1
  · intro W8 hSw
    clear hSw
    go_simp
    all_goals with_reducible rfl
  try simp only [Act.put, List.setIfInBounds_toArray, List.set_cons_zero, List.set_cons_succ]
  refine K_take' (i := 3) (v := ?_) rfl (by kernel_rfl) (by kernel_rfl) (by kernel_rfl) (by kernel_rfl) (fun _ _ _ h => h) (Or.inl ⟨by kernel_rfl, ?_⟩) hHeld ?_
  rotate_left 1
  · intro W8 hSw
    clear hSw
    go_simp
    all_goals with_reducible rfl
  try simp only [Act.put, List.setIfInBounds_toArray, List.set_cons_zero, List.set_cons_succ]
  refine K_take' (i := 6) (v := ?_) rfl (by kernel_rfl) (by kernel_rfl) (by kernel_rfl) (by kernel_rfl) (fun _ _ _ h => h) (Or.inl ⟨by kernel_rfl, ?_⟩) hHeld ?_
  rotate_left 1
  · intro W8 hSw
    clear hSw
    go_simp
    all_goals with_reducible rfl
  try simp only [Act.put, List.setIfInBounds_toArray, List.set_cons_zero, List.set_cons_succ]
  refine K_take (i := 1) (v := ?_) rfl (by kernel_rfl) (by kernel_rfl) (by kernel_rfl) (by kernel_rfl) (by kernel_rfl) (fun _ _ _ h => h) (Or.inl ⟨by kernel_rfl, ?_⟩) hHeld ?_
  rotate_left 1
  · intro W8 hSw
    (try dsimp only at hSw)
    go_simp
    all_goals with_reducible rfl
  try simp only [Act.put, List.setIfInBounds_toArray, List.set_cons_zero, List.set_cons_succ]
  refine K_take (i := 4) (v := ?_) rfl (by kernel_rfl) (by kernel_rfl) (by kernel_rfl) (by kernel_rfl) (by kernel_rfl) (fun _ _ _ h => h) (Or.inl ⟨by kernel_rfl, ?_⟩) hHeld ?_
  rotate_left 1
  · intro W8 hSw
    (try dsimp only at hSw)
    go_simp
    all_goals with_reducible rfl
  try simp only [Act.put, List.setIfInBounds_toArray, List.set_cons_zero, List.set_cons_succ]
  refine K_take (i := 7) (v := ?_) rfl (by kernel_rfl) (by kernel_rfl) (by kernel_rfl) (by kernel_rfl) (by kernel_rfl) (fun _ _ _ h => h) (Or.inl ⟨by kernel_rfl, ?_⟩) hHeld ?_
  rotate_left 1
  · intro W8 hSw
    (try dsimp only at hSw)
    go_simp
    all_goals with_reducible rfl
  try simp only [Act.put, List.setIfInBounds_toArray, List.set_cons_zero, List.set_cons_succ]
  refine K_step' (i := 2) (by kernel_rfl) rfl (fun K hK => ?_)
  go_simp
  refine (K1.out _ (HB8.out.below hHeld.2)).mono ?_
  rintro r w1 ⟨v1, rfl, hownv1, hbv1⟩
  obtain ⟨Bv1, kv1, rfl, _⟩ := own_it hownv1
  have hKpv1 := Kp.next hHeld hbv1
  refine hK.out _ _ hKpv1 (fun hH1 => ?_)
  clear hK K
  try simp only [Act.put, List.setIfInBounds_toArray, List.set_cons_zero, List.set_cons_succ]
  refine K_take' (i := 9) (v := ?_) rfl (by kernel_rfl) (by kernel_rfl) (by kernel_rfl) (by kernel_rfl) (fun _ _ _ h => h) (Or.inl ⟨by kernel_rfl, ?_⟩) hKpv1 ?_
  rotate_left 1
  · intro W8 hSw
    clear hSw
    go_simp
    all_goals with_reducible rfl
  try simp only [Act.put, List.setIfInBounds_toArray, List.set_cons_zero, List.set_cons_succ]
  refine K_step' (i := 5) (by kernel_rfl) rfl (fun K hK => ?_)
  go_simp
  refine (K2.out _ (HB28.out.below hKpv1.2)).mono ?_
  rintro r w2 ⟨v2, rfl, hownv2, hbv2⟩
  obtain ⟨Bv2, kv2, rfl, _⟩ := own_it hownv2
  have hKpv2 := Kp.next hKpv1 hbv2
  refine hK.out _ _ hKpv2 (fun hH2 => ?_)
  clear hK K
  try simp only [Act.put, List.setIfInBounds_toArray, List.set_cons_zero, List.set_cons_succ]
  refine K_step (by kernel_rfl) (by kernel_rfl) rfl (fun K hK => ?_)
  go_simp
  refine (K3.out _ (HB38.out.below hKpv2.2)).mono ?_
  rintro r w3 ⟨v3, rfl, hownv3, hbv3⟩
  obtain ⟨Bv3, kv3, rfl, _⟩ := own_it hownv3
  have hKpv3 := Kp.next hKpv2 hbv3
  refine hK.out _ _ ?_
  clear hK K
  try simp only [Act.put, List.setIfInBounds_toArray, List.set_cons_zero, List.set_cons_succ]
  have C3 := HC1.out.below hKpv3.2
  have D3 := HC2.out.below hKpv3.2
  have hz1 := hKpv1.2.size
  have hz0 := HG8.out.size
  have hz2 := hKpv2.2.size
  have hz3 := hKpv3.2.size
  have hg1 : ∀ g, (Value.slice Bv1 R.length kv1).ownBlock = some g → g < w1.heap.size := own_lt hownv1
  have hg2 : ∀ g, (Value.slice Bv2 W.length kv2).ownBlock = some g → g < w2.heap.size := own_lt hownv2
  have hz12 := hbv2.size
  have hz23 := hbv3.size
  have O1 := own_below (own_below hownv1 hbv2) hbv3
  have O2 := own_below hownv2 hbv3
  have HC3 := Lib.hid C3
  have HD3 := Lib.hid D3
  have HO1 := Lib.hid O1
  have HO2 := Lib.hid O2
  have HO3 := Lib.hid hownv3
  have HG3 := Lib.hid (chain HG8.out hKpv3.2)
  have hP3 : w.heap.size < w3.heap.size := by omega
  have HG1 := Lib.hid hg1
  have HG2 := Lib.hid hg2
  clear p0 p1 p2 p3 p4 C3 D3 hKpv1 hKpv2 hKpv3 hHeld hH1 hH2 hbv1 hbv2 hbv3 hownv1 hownv2 hownv3 O1 O2 hg1 hg2 HB8 HB28 HB38 K1 K2 K3
  have p0 := HC3.out.c 0 rfl
  have p1 := HC3.out.c 1 rfl
  have p2 := HC3.out.c 2 rfl
  have p3 := HC3.out.c 3 rfl
  have p4 := HC3.out.c 4 rfl
  have e0 := HC3.out.f 0 rfl
  have e1 := HC3.out.f 1 rfl
  have e2 := HC3.out.f 2 rfl
  have e3 := HC3.out.f 3 rfl
  have e4 := HC3.out.f 4 rfl
  refine wpAny_ready (rs := [10]) (by kernel_rfl) (by simp) (AllReady.cons rfl (fun K hK => ?_) AllReady.nil)
  go_simp
  refine hK _ _ ?_
  clear hK K
  try simp only [Act.put, List.setIfInBounds_toArray, List.set_cons_zero, List.set_cons_succ]
  refine wpAny_take (i := 11) (v := ?_) rfl (by kernel_rfl) (by kernel_rfl) (by kernel_rfl) (fun _ _ _ h => h) (Or.inl ⟨by kernel_rfl, ?_⟩) ?_
  rotate_left 1
  · intro W8
    go_simp
    all_goals with_reducible rfl
  try simp only [Act.put, List.setIfInBounds_toArray, List.set_cons_zero, List.set_cons_succ]
  refine wpAny_ready (rs := [12]) (by kernel_rfl) (by simp) (AllReady.cons rfl (fun K hK => ?_) AllReady.nil)
  go_simp
  refine hK _ _ ?_
  clear hK K
  try simp only [Act.put, List.setIfInBounds_toArray, List.set_cons_zero, List.set_cons_succ]
  refine wpAny_take (i := 13) (v := ?_) rfl (by kernel_rfl) (by kernel_rfl) (by kernel_rfl) (fun _ _ _ h => h) (Or.inl ⟨by kernel_rfl, ?_⟩) ?_
  rotate_left 1
  · intro W8
    go_simp
    all_goals with_reducible rfl
  try simp only [Act.put, List.setIfInBounds_toArray, List.set_cons_zero, List.set_cons_succ]
  refine wpAny_ready (rs := [14]) (by kernel_rfl) (by simp) (AllReady.cons rfl (fun K hK => ?_) AllReady.nil)
  go_simp
  refine hK _ _ ?_
  clear hK K
  try simp only [Act.put, List.setIfInBounds_toArray, List.set_cons_zero, List.set_cons_succ]
  refine wpAny_done (by kernel_rfl) ?_ _
  obtain ⟨w4, hw4⟩ : ∃ wx, wx = (((w3.setCell ⟨w.heap.size, 0, none⟩ (Value.slice Bv1 R.length kv1)).setCell ⟨w.heap.size, 1, none⟩ (Value.slice Bv2 W.length kv2)).setCell ⟨w.heap.size, 4, none⟩ (Value.slice Bv3 ch.length kv3)) := ⟨_, rfl⟩
  have C4 : Cl w.heap.size w4 [(Value.slice Bv1 R.length kv1), (Value.slice Bv2 W.length kv2), .int .i64 Ac, .int .i64 Pe, (Value.slice Bv3 ch.length kv3)] := by rw [hw4]; exact ((HC3.out.set 0 (Value.slice Bv1 R.length kv1)).set 1 (Value.slice Bv2 W.length kv2)).set 4 (Value.slice Bv3 ch.length kv3)
  have D4 : Cl (w.heap.size + 1) w4 [.slice none 0 0, .slice none 0 0, .int .i64 0, .int .i64 0, .slice none 0 0] := by rw [hw4]; exact ((HD3.out.far (by omega) 0 (Value.slice Bv1 R.length kv1)).far (by omega) 1 (Value.slice Bv2 W.length kv2)).far (by omega) 4 (Value.slice Bv3 ch.length kv3)
  have O1 : Own w4 w8.heap.size (Value.slice Bv1 R.length kv1) R := by rw [hw4]; exact own_set (own_set (own_set HO1.out hP8 0 (Value.slice Bv1 R.length kv1)) hP8 1 (Value.slice Bv2 W.length kv2)) hP8 4 (Value.slice Bv3 ch.length kv3)
  have O2 : Own w4 w1.heap.size (Value.slice Bv2 W.length kv2) W := by rw [hw4]; exact own_set (own_set (own_set HO2.out (by omega) 0 (Value.slice Bv1 R.length kv1)) (by omega) 1 (Value.slice Bv2 W.length kv2)) (by omega) 4 (Value.slice Bv3 ch.length kv3)
  have O3 : OwC w4 w2.heap.size (Value.slice Bv3 ch.length kv3) ch := by rw [hw4]; exact own_set (own_set (own_set HO3.out (by omega) 0 (Value.slice Bv1 R.length kv1)) (by omega) 1 (Value.slice Bv2 W.length kv2)) (by omega) 4 (Value.slice Bv3 ch.length kv3)
  have G4 : Below w.heap.size w w4 := by rw [hw4]; exact ((HG3.out.setCell (p := ⟨w.heap.size, 0, none⟩) (Nat.le_refl _) (Value.slice Bv1 R.length kv1)).setCell (p := ⟨w.heap.size, 1, none⟩) (Nat.le_refl _) (Value.slice Bv2 W.length kv2)).setCell (p := ⟨w.heap.size, 4, none⟩) (Nat.le_refl _) (Value.slice Bv3 ch.length kv3)
  have hz4 : w2.heap.size ≤ w4.heap.size := by rw [hw4]; simp; omega
  rw [← hw4]
  have HO1 := Lib.hid O1
  have HO2 := Lib.hid O2
  have HO3 := Lib.hid O3
  have HG4 := Lib.hid G4
  have hZ8 := HZ8.out
  clear hw4 p0 p1 p2 p3 p4 e0 e1 e2 e3 e4 O1 O2 O3 G4 HC3 HD3 HC1 HC2 HG8 HZ8
  have p0 := C4.c 0 rfl
  have p1 := C4.c 1 rfl
  have p2 := C4.c 2 rfl
  have p3 := C4.c 3 rfl
  have p4 := C4.c 4 rfl
  have q0 := D4.c 0 rfl
  have q1 := D4.c 1 rfl
  have q2 := D4.c 2 rfl
  have q3 := D4.c 3 rfl
  have q4 := D4.c 4 rfl
  have f0 := D4.f 0 rfl
  have f1 := D4.f 1 rfl
  have f2 := D4.f 2 rfl
  have f3 := D4.f 3 rfl
  have f4 := D4.f 4 rfl
  have zq := D4.1
  clear C4 D4
  go_wp2_with fail
  refine bodyPost_ret (v := .agg #[(Value.slice Bv1 R.length kv1), (Value.slice Bv2 W.length kv2), .int .i64 Ac, .int .i64 Pe, (Value.slice Bv3 ch.length kv3)]) (by simp [results, Try.results36, go_sem, q0, f0, q1, f1, q2, f2, q3, f3, q4, f4, zq] <;> first | rfl | ((repeat' apply And.intro) <;> rfl)) rfl ⟨(Value.slice Bv1 R.length kv1), (Value.slice Bv2 W.length kv2), (Value.slice Bv3 ch.length kv3), w1.heap.size, w2.heap.size, rfl, by omega, by omega, ?_, HG1.out, ?_, HG2.out, ?_, by simp; omega, below_set5 HG4.out (Nat.le_succ _) _ _ _ _ _⟩
  · exact own_mono (own_set5 HO1.out (by omega) _ _ _ _ _) (by omega)
  · exact own_set5 HO2.out (by omega) _ _ _ _ _
  · exact own_set5 HO3.out (by omega) _ _ _ _ _
end Go.Proofs.Ytamajedopofcoaa
