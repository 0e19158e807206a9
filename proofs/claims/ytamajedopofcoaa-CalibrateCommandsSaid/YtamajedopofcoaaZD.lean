/-
  The contract of command for the command that reads. No condition but that it succeeds.
  The contract of the closure fail. No condition but the boxes' cells.
  Append of bytes in a drawn region. No condition.
-/
import Derived.Test.YtamajedopofcoaaZC
import Derived.Maps.OwnSet
set_option linter.unusedVariables false
set_option linter.unusedSimpArgs false
namespace Go.Proofs.Ytamajedopofcoaa
open Go.RowKit
theorem cell_far5 {w : World} {P b o : Nat} (h : P ≠ b) (v0 v1 v2 v3 v4 : Value) : (((((w.setCell ⟨P, 0, none⟩ v0).setCell ⟨P, 1, none⟩ v1).setCell ⟨P, 2, none⟩ v2).setCell ⟨P, 3, none⟩ v3).setCell ⟨P, 4, none⟩ v4).cell? ⟨b, o, none⟩ = w.cell? ⟨b, o, none⟩ :=
  (World.cell?_setCell_far _ _ _ _ h).trans ((World.cell?_setCell_far _ _ _ _ h).trans ((World.cell?_setCell_far _ _ _ _ h).trans ((World.cell?_setCell_far _ _ _ _ h).trans (World.cell?_setCell_far _ _ _ _ h))))
set_option maxRecDepth 100000 in
set_option maxHeartbeats 16000000 in
open Go.Maps in
theorem cmd41_read (A : Option Addr) (n c : Nat) (A2 : Option Addr) (n2 c2 : Nat) (Ac Pe : Int) (A3 : Option Addr) (m c3 : Nat) (R W : List Int) (ch : List (Int × Int)) (A4 : Option Addr) (mm c4 : Nat) (b o c5 : Nat) (x y v : Int) (w : World) (hl : R.length = n) (hb : Ik .i64 w A R) (hc : n ≤ c) (hl2 : W.length = n2) (hb2 : Ik .i64 w A2 W) (hc2 : n2 ≤ c2) (hl3 : ch.length = m) (hb3 : Ik .i64 w A3 (flat ch)) (hc3 : m ≤ c3) (hs : n ≤ 5000) (hs2 : n2 ≤ 5000) (hs3 : m ≤ 5000) (h1 : w.cell? ⟨b, o, none⟩ = some (.int .u8 1)) (h2 : w.cell? ⟨b, o + 1, none⟩ = some (.int .u8 x)) (h3 : w.cell? ⟨b, o + 1 + 1, none⟩ = some (.int .u8 y)) (hbl : b < w.heap.size) (hc5 : 3 ≤ c5) (x0 : 0 ≤ x) (x1 : x ≤ 255) (y0 : 0 ≤ y) (y1 : y ≤ 255) (v0 : -9223372036854775808 ≤ v) (v1 : v ≤ 9223372036854775807) (hr : readM ⟨R, W, Ac, Pe, ch⟩ (x * 256 + y) = (v, 0)) : Calls Try.prog 41 #[.agg #[.slice A n c, .slice A2 n2 c2, .int .i64 Ac, .int .i64 Pe, .slice A3 m c3], .slice A4 mm c4, .slice (some ⟨b, o, none⟩) 3 c5] w fun r w' => ∃ B cB, r = .returned (.tuple #[.agg #[.slice A n c, .slice A2 n2 c2, .int .i64 Ac, .int .i64 Pe, .slice A3 m c3], .slice A4 mm c4, .slice B 8 cB, .int .i64 0]) ∧ 8 ≤ cB ∧ Ik .u8 w' B (byts v) ∧ Fr w.heap.size B ∧ Below w.heap.size w w' := by
  have KR := fun w h h2 h3 => read13 A n c A2 n2 c2 Ac Pe A3 m c3 R W ch (x * 256 + y) w hl h hc hl2 h2 hc2 hl3 h3 hc3 hs hs2 hs3
  rw [hr] at KR
  have KI := fun w h h' => index52 b (o + 1) 2 (c5 - 1) x y w (Nat.le_refl _) (by omega) h h' x0 x1 y0 y1
  have KB := fun w => bytes53 v w v0 v1
  replace KR := Lib.hid KR
  replace KI := Lib.hid KI
  replace KB := Lib.hid KB
  have HB1 := Lib.hid hb
  have HB2 := Lib.hid hb2
  have HB3 := Lib.hid hb3
  clear hl hl2 hl3 hb hb2 hb3 hr
  have hmm := @run_makeMap Try.prog
  go_enter Try.func41, Try.ntmps41
  go_upto_region 2 with fail
  obtain ⟨w8, hw8⟩ : ∃ wx, wx = ((w.alloc (.cells #[.slice A n c, .slice A2 n2 c2, .int .i64 Ac, .int .i64 Pe, .slice A3 m c3] 25)).alloc (.cells #[.slice A4 mm c4] 45)).alloc (.cells #[.slice none 0 0, .slice none 0 0, .int .i64 0, .int .i64 0, .slice none 0 0] 25) := ⟨_, rfl⟩
  have G8 : Below w.heap.size w w8 := by rw [hw8]; go_grown
  have z8 : w8.heap.size = w.heap.size + 3 := by rw [hw8]; simp
  have CP : Cl w.heap.size w8 [.slice A n c, .slice A2 n2 c2, .int .i64 Ac, .int .i64 Pe, .slice A3 m c3] := by rw [hw8]; exact ((Cl.new (w := w) rfl [.slice A n c, .slice A2 n2 c2, .int .i64 Ac, .int .i64 Pe, .slice A3 m c3] 25).below ((Below.refl _ _).alloc (Nat.le_refl _) _)).below ((Below.refl _ _).alloc (Nat.le_refl _) _)
  have CM : Cl (w.heap.size + 1) w8 [.slice A4 mm c4] := by rw [hw8]; exact (Cl.new (P := w.heap.size + 1) (by simp) [.slice A4 mm c4] 45).below ((Below.refl _ _).alloc (Nat.le_refl _) _)
  have CQ : Cl (w.heap.size + 1 + 1) w8 [.slice none 0 0, .slice none 0 0, .int .i64 0, .int .i64 0, .slice none 0 0] := by rw [hw8]; exact Cl.new (by simp) [.slice none 0 0, .slice none 0 0, .int .i64 0, .int .i64 0, .slice none 0 0] 25
  rw [← hw8]
  have HZ8 := Lib.hid z8
  clear hw8 z8
  have hown0 := World.ownsMap_made (H := Unit) w8 Try.prog 5 (plainElem Try.prog 3)
  go_upto_region 3 with (first | (refine insert_own _ rfl _ _ _ 78 rfl 5 3 (int_keyed Try.underlying5) Try.underlying78 (plainElem Try.prog 3) _ 0 _ rfl hown0 (by unfold maxLen; omega) _ _ _ rfl rfl (keyOf_int_mk Try.underlying5 (a := 1) rfl) _ [] (plainElem_int Try.underlying3 (a := 3) rfl) ?_; intro m1 hown1 hgr1) | (refine insert_own _ rfl _ _ _ 78 rfl 5 3 (int_keyed Try.underlying5) Try.underlying78 (plainElem Try.prog 3) _ 1 _ rfl hown1 (by unfold maxLen; omega) _ _ _ rfl rfl (keyOf_int_mk Try.underlying5 (a := 2) rfl) _ [] (plainElem_int Try.underlying3 (a := 11) rfl) ?_; intro m2 hown2 hgr2) | (refine insert_own _ rfl _ _ _ 78 rfl 5 3 (int_keyed Try.underlying5) Try.underlying78 (plainElem Try.prog 3) _ 2 _ rfl hown2 (by unfold maxLen; omega) _ _ _ rfl rfl (keyOf_int_mk Try.underlying5 (a := 3) rfl) _ [] (plainElem_int Try.underlying3 (a := 2) rfl) ?_; intro m3 hown3 hgr3) | (refine insert_own _ rfl _ _ _ 78 rfl 5 3 (int_keyed Try.underlying5) Try.underlying78 (plainElem Try.prog 3) _ 3 _ rfl hown3 (by unfold maxLen; omega) _ _ _ rfl rfl (keyOf_int_mk Try.underlying5 (a := 5) rfl) _ [] (plainElem_int Try.underlying3 (a := 2) rfl) ?_; intro m4 hown4 hgr4) | (refine insert_own _ rfl _ _ _ 78 rfl 5 3 (int_keyed Try.underlying5) Try.underlying78 (plainElem Try.prog 3) _ 4 _ rfl hown4 (by unfold maxLen; omega) _ _ _ rfl rfl (keyOf_int_mk Try.underlying5 (a := 6) rfl) _ [] (plainElem_int Try.underlying3 (a := 2) rfl) ?_; intro m5 hown5 hgr5))
  have g0 : Below w8.heap.size w8 (w8.alloc (.map #[] 0)) := (Below.refl _ _).alloc (Nat.le_refl _) _
  have hBg : ∀ k, some w8.heap.size = some k → w8.heap.size ≤ k := fun k e => by injection e with e; omega
  have g1 := g0.grown hgr1 g0.size hBg
  have g2 := g1.grown hgr2 g1.size hBg
  have g3 := g2.grown hgr3 g2.size hBg
  have g4 := g3.grown hgr4 g3.size hBg
  have g5 := g4.grown hgr5 g4.size hBg
  have s1 : m5.cell? ⟨b, o, none⟩ = some (.int .u8 1) := ((bcell (chain G8 g5)).1 b o hbl).trans h1
  have s2 : m5.cell? ⟨b, o + 1, none⟩ = some (.int .u8 x) := ((bcell (chain G8 g5)).1 b _ hbl).trans h2
  have s3 : m5.cell? ⟨b, o + 1 + 1, none⟩ = some (.int .u8 y) := ((bcell (chain G8 g5)).1 b _ hbl).trans h3
  have HP5 := Lib.hid (CP.below g5)
  have HM5 := Lib.hid (CM.below g5)
  have HQ5 := Lib.hid (CQ.below g5)
  have HG5 := Lib.hid (chain G8 g5)
  have hz5 := g5.size
  clear hown0 hown1 hown2 hown3 hown4 hgr1 hgr2 hgr3 hgr4 hgr5 g0 g1 g2 g3 g4 g5 hBg CP CM CQ G8 h1 h2 h3
  go_upto_region 4 with (first | (at_lookup; refine wpList_lookup_own_ok_int _ rfl _ _ 78 rfl 5 3 .i64 (int_keyed Try.underlying5) Try.underlying78 Try.underlying3 (by kernel_rfl) _ 5 _ rfl hown5 _ _ rfl (keyOf_int_mk Try.underlying5 (a := 1) rfl) ?_; intro c0 hat hwc))
  have hc03 : c0 = 3 := by
    have e : (DataW.lit (Lit.int .i64 3) : DataW Unit) = .lit (.int .i64 c0) := hat
    injection e with e; injection e with _ e; exact e.symm
  subst hc03
  rw [show Maps.has ((((((DataW.map [] : DataW Unit).put (.int .u8 1) (.lit (.int .i64 3))).put (.int .u8 2) (.lit (.int .i64 11))).put (.int .u8 3) (.lit (.int .i64 2))).put (.int .u8 5) (.lit (.int .i64 2))).put (.int .u8 6) (.lit (.int .i64 2))) (Lit.int .u8 1) = true from by kernel_rfl]
  clear hat hwc
  go_upto_region 8 with fail
  have hb5 : b < m5.heap.size := by have := HZ8.out; omega
  have hPm : w.heap.size < m5.heap.size := HP5.out.1
  have f1 : (1 : Int) ≤ (3 : Int) := by decide
  have f2 : ¬ (c5 = 1) := by omega
  have p0 := HP5.out.c 0 rfl
  have p1 := HP5.out.c 1 rfl
  have p2 := HP5.out.c 2 rfl
  have p3 := HP5.out.c 3 rfl
  have p4 := HP5.out.c 4 rfl
  refine region_K (fun W' => (∀ b o, b < m5.heap.size → W'.cell? ⟨b, o, none⟩ = m5.cell? ⟨b, o, none⟩) ∧ Below m5.heap.size m5 W') 4 (by kernel_rfl) (Kp.mk (Below.refl _ _).drew) (fun hHeld => ?_)
  refine K_take' (i := 1) (v := ?_) rfl (by kernel_rfl) (by kernel_rfl) (by kernel_rfl) (by kernel_rfl) (fun _ _ _ h => h) (Or.inl ⟨by kernel_rfl, ?_⟩) hHeld ?_
  rotate_left 1
  · intro W8 hSw
    clear hSw
    go_simp
    all_goals with_reducible rfl
  try simp only [Act.put, List.setIfInBounds_toArray, List.set_cons_zero, List.set_cons_succ]
  refine K_take' (i := 2) (v := ?_) rfl (by kernel_rfl) (by kernel_rfl) (by kernel_rfl) (by kernel_rfl) (fun _ _ _ h => h) (Or.inl ⟨by kernel_rfl, ?_⟩) hHeld ?_
  rotate_left 1
  · intro W8 hSw
    clear hSw
    go_simp
    all_goals with_reducible rfl
  try simp only [Act.put, List.setIfInBounds_toArray, List.set_cons_zero, List.set_cons_succ]
  refine K_take (i := 0) (v := ?_) rfl (by kernel_rfl) (by kernel_rfl) (by kernel_rfl) (by kernel_rfl) (by kernel_rfl) (fun _ _ _ h => h) (Or.inl ⟨by kernel_rfl, ?_⟩) hHeld ?_
  rotate_left 1
  · intro W8 hSw
    (try dsimp only at hSw)
    go_simp
    all_goals with_reducible rfl
  try simp only [Act.put, List.setIfInBounds_toArray, List.set_cons_zero, List.set_cons_succ]
  refine K_step' (i := 3) (by kernel_rfl) rfl (fun K hK => ?_)
  go_simp
  refine (KI.out _ ((hHeld.1 b _ hb5).trans s2) ((hHeld.1 b _ hb5).trans s3)).mono ?_
  rintro r w9 ⟨rfl, hb9⟩
  have hKp9 := Kp.next hHeld hb9
  refine hK.out _ _ hKp9 (fun hH1 => ?_)
  clear hK K
  try simp only [Act.put, List.setIfInBounds_toArray, List.set_cons_zero, List.set_cons_succ]
  refine K_step (by kernel_rfl) (by kernel_rfl) rfl (fun K hK => ?_)
  go_simp
  refine (KR.out _ ((HB1.out.below HG5.out).below hKp9.2) ((HB2.out.below HG5.out).below hKp9.2) ((HB3.out.below HG5.out).below hKp9.2)).mono ?_
  rintro r w10 ⟨rfl, hb10⟩
  have hKp10 := Kp.next hKp9 hb10
  refine hK.out _ _ ?_
  clear hK K
  try simp only [Act.put, List.setIfInBounds_toArray, List.set_cons_zero, List.set_cons_succ]
  refine wpAny_take (i := 5) (v := ?_) rfl (by kernel_rfl) (by kernel_rfl) (by kernel_rfl) (fun _ _ _ h => h) (Or.inl ⟨by kernel_rfl, ?_⟩) ?_
  rotate_left 1
  · intro W8
    go_simp
    all_goals with_reducible rfl
  try simp only [Act.put, List.setIfInBounds_toArray, List.set_cons_zero, List.set_cons_succ]
  refine wpAny_take (i := 6) (v := ?_) rfl (by kernel_rfl) (by kernel_rfl) (by kernel_rfl) (fun _ _ _ h => h) (Or.inl ⟨by kernel_rfl, ?_⟩) ?_
  rotate_left 1
  · intro W8
    go_simp
    all_goals with_reducible rfl
  try simp only [Act.put, List.setIfInBounds_toArray, List.set_cons_zero, List.set_cons_succ]
  refine wpAny_take (i := 7) (v := ?_) rfl (by kernel_rfl) (by kernel_rfl) (by kernel_rfl) (fun _ _ _ h => h) (Or.inl ⟨by kernel_rfl, ?_⟩) ?_
  rotate_left 1
  · intro W8
    go_simp
    all_goals with_reducible rfl
  try simp only [Act.put, List.setIfInBounds_toArray, List.set_cons_zero, List.set_cons_succ]
  refine wpAny_ready (rs := [8]) (by kernel_rfl) (by simp) (AllReady.cons rfl (fun K hK => ?_) AllReady.nil)
  go_simp
  refine hK _ _ ?_
  clear hK K
  try simp only [Act.put, List.setIfInBounds_toArray, List.set_cons_zero, List.set_cons_succ]
  refine wpAny_ready (rs := [9]) (by kernel_rfl) (by simp) (AllReady.cons rfl (fun K hK => ?_) AllReady.nil)
  go_simp
  refine hK _ _ ?_
  clear hK K
  try simp only [Act.put, List.setIfInBounds_toArray, List.set_cons_zero, List.set_cons_succ]
  refine wpAny_done (by kernel_rfl) ?_ _
  have HP10 := Lib.hid (HP5.out.below hKp10.2)
  have HM10 := Lib.hid (HM5.out.below hKp10.2)
  have HQ10 := Lib.hid (HQ5.out.below hKp10.2)
  have HG10 := Lib.hid (chain HG5.out hKp10.2)
  have hP10 : w.heap.size < w10.heap.size := HP10.out.1
  have hM10 : w.heap.size + 1 < w10.heap.size := HM10.out.1
  have hQ10 : w.heap.size + 1 + 1 < w10.heap.size := HQ10.out.1
  clear p0 p1 p2 p3 p4 hKp9 hKp10 hHeld hH1 hb9 hb10 s1 s2 s3 HP5 HM5 HQ5 HG5 HB1 HB2 HB3 KR KI
  go_upto_region 11 with fail
  have p0 := HP10.out.c 0 rfl
  have p1 := HP10.out.c 1 rfl
  have p2 := HP10.out.c 2 rfl
  have p3 := HP10.out.c 3 rfl
  have p4 := HP10.out.c 4 rfl
  have pm := HM10.out.c 0 rfl
  have nPQ : w.heap.size ≠ w.heap.size + 1 + 1 := by omega
  have nMQ : w.heap.size + 1 ≠ w.heap.size + 1 + 1 := by omega
  refine region_K (fun W' => (∀ b o, b < w10.heap.size → b ≠ w.heap.size + 1 + 1 → W'.cell? ⟨b, o, none⟩ = w10.cell? ⟨b, o, none⟩) ∧ True) 5 (by kernel_rfl) (⟨fun b o _ _ => rfl, trivial⟩) (fun hHeld => ?_)
  refine K_take' (i := 2) (v := ?_) rfl (by kernel_rfl) (by kernel_rfl) (by kernel_rfl) (by kernel_rfl) (fun _ _ _ h => h) (Or.inl ⟨by kernel_rfl, ?_⟩) hHeld ?_
  rotate_left 1
  · intro W8 hSw
    clear hSw
    go_simp
    all_goals with_reducible rfl
  try simp only [Act.put, List.setIfInBounds_toArray, List.set_cons_zero, List.set_cons_succ]
  refine K_take (i := 0) (v := ?_) rfl (by kernel_rfl) (by kernel_rfl) (by kernel_rfl) (by kernel_rfl) (by kernel_rfl) (fun _ _ _ h => h) (Or.inl ⟨by kernel_rfl, ?_⟩) hHeld ?_
  rotate_left 1
  · intro W8 hSw
    (try dsimp only at hSw)
    go_simp
    all_goals with_reducible rfl
  try simp only [Act.put, List.setIfInBounds_toArray, List.set_cons_zero, List.set_cons_succ]
  refine K_take (i := 1) (v := ?_) rfl (by kernel_rfl) (by kernel_rfl) (by kernel_rfl) (by kernel_rfl) (by kernel_rfl) (fun _ _ _ h => h) (Or.inl ⟨by kernel_rfl, ?_⟩) hHeld ?_
  rotate_left 1
  · intro W8 hSw
    (try dsimp only at hSw)
    go_simp
    all_goals with_reducible rfl
  try simp only [Act.put, List.setIfInBounds_toArray, List.set_cons_zero, List.set_cons_succ]
  refine K_step' (i := 3) (by kernel_rfl) rfl (fun K hK => ?_)
  go_simp
  refine (KB.out _).mono ?_
  rintro r w11 ⟨vb, rfl, hOb, hb11⟩
  obtain ⟨Bb, cb, rfl, hcb, _, hib, hfb, hlb⟩ := own_bt hOb
  refine hK.out _ _ ⟨fun b o hb hne => (hb11.cell (p := ⟨b, o, none⟩) hb), trivial⟩ (fun hH2 => ?_)
  clear hK K
  try simp only [Act.put, List.setIfInBounds_toArray, List.set_cons_zero, List.set_cons_succ]
  have B11 : Below w10.heap.size w10 w11 := (Below.refl _ _).drew.trans hb11
  have CQ11 := HQ10.out.below B11
  have q0 := CQ11.c 0 rfl
  have q1 := CQ11.c 1 rfl
  have q2 := CQ11.c 2 rfl
  have q3 := CQ11.c 3 rfl
  have q4 := CQ11.c 4 rfl
  have f0 := CQ11.f 0 rfl
  have f1 := CQ11.f 1 rfl
  have f2 := CQ11.f 2 rfl
  have f3 := CQ11.f 3 rfl
  have f4 := CQ11.f 4 rfl
  have zq := CQ11.1
  refine K_step' (i := 4) (by kernel_rfl) rfl (fun K hK => ?_)
  go_simp
  refine hK.out _ _ ⟨fun b o hb hne => ?_, trivial⟩ (fun hH3 => ?_)
  · exact (cell_far5 (Ne.symm hne) _ _ _ _ _).trans (B11.cell (p := ⟨b, o, none⟩) hb)
  clear hK K
  try simp only [Act.put, List.setIfInBounds_toArray, List.set_cons_zero, List.set_cons_succ]
  refine K_step (by kernel_rfl) (by kernel_rfl) rfl (fun K hK => ?_)
  go_simp
  refine hK.out _ _ ?_
  clear hK K
  try simp only [Act.put, List.setIfInBounds_toArray, List.set_cons_zero, List.set_cons_succ]
  refine wpAny_ready (rs := [6]) (by kernel_rfl) (by simp) (AllReady.cons rfl (fun K hK => ?_) AllReady.nil)
  go_simp
  refine hK _ _ ?_
  clear hK K
  try simp only [Act.put, List.setIfInBounds_toArray, List.set_cons_zero, List.set_cons_succ]
  refine wpAny_ready (rs := [7]) (by kernel_rfl) (by simp) (AllReady.cons rfl (fun K hK => ?_) AllReady.nil)
  go_simp
  refine hK _ _ ?_
  clear hK K
  try simp only [Act.put, List.setIfInBounds_toArray, List.set_cons_zero, List.set_cons_succ]
  refine wpAny_done (by kernel_rfl) ?_ _
  have HG11 := Lib.hid (chain HG10.out B11)
  have HIB := Lib.hid hib
  have hz11 := B11.size
  have hfb' : Fr (w.heap.size + 1 + 1 + 1) Bb := fr_le hfb (by show w.heap.size + 1 + 1 + 1 ≤ w10.heap.size; omega)
  clear hib hfb hOb hb11 B11 CQ11 hH2 hH3 hHeld HP10 HM10 HQ10 HG10 KB hmm
  go_wp2_with fail
  refine bodyPost_ret (v := .tuple #[.agg #[.slice A n c, .slice A2 n2 c2, .int .i64 Ac, .int .i64 Pe, .slice A3 m c3], .slice A4 mm c4, .slice Bb 8 cb, .int .i64 0]) (by simp [results, Try.results41, go_sem, q0, f0, q1, f1, q2, f2, q3, f3, q4, f4, zq] <;> first | rfl | ((repeat' apply And.intro) <;> rfl)) rfl ⟨Bb, cb, rfl, hcb, ?_, fr_le hfb' (by omega), below_set5 HG11.out (by omega) _ _ _ _ _⟩
  exact HIB.out.fr5 hfb' (by omega) _ _ _ _ _
end Go.Proofs.Ytamajedopofcoaa
set_option linter.unusedVariables false
set_option linter.unusedSimpArgs false
namespace Go.Proofs.Ytamajedopofcoaa
open Go.RowKit
set_option maxRecDepth 100000 in
set_option maxHeartbeats 16000000 in
theorem fail51 (A : Option Addr) (n c : Nat) (A2 : Option Addr) (n2 c2 : Nat) (Ac Pe : Int) (A3 : Option Addr) (m c3 : Nat) (R W : List Int) (ch : List (Int × Int)) (A4 : Option Addr) (mm c4 : Nat) (e : Int) (P M : Nat) (w : World) (hP : Cl P w [.slice A n c, .slice A2 n2 c2, .int .i64 Ac, .int .i64 Pe, .slice A3 m c3]) (hM : Cl M w [.slice A4 mm c4]) : Calls Try.prog 51 #[.int .i64 e, .pointer (some ⟨P, 0, none⟩), .pointer (some ⟨M, 0, none⟩)] w fun r w' => r = .returned (.tuple #[.agg #[.slice A n c, .slice A2 n2 c2, .int .i64 Ac, .int .i64 Pe, .slice A3 m c3], .slice A4 mm c4, .slice none 0 0, .int .i64 e]) ∧ Below w.heap.size w w' := by
  have al : Below w.heap.size w (w.alloc (.cells #[.slice none 0 0, .slice none 0 0, .int .i64 0, .int .i64 0, .slice none 0 0] 25)) := (Below.refl _ _).alloc (Nat.le_refl _) _
  have HP := Lib.hid (hP.below al)
  have HM := Lib.hid (hM.below al)
  have HQ := Lib.hid (Cl.new (w := w) rfl [.slice none 0 0, .slice none 0 0, .int .i64 0, .int .i64 0, .slice none 0 0] 25)
  have HG := Lib.hid al
  have nP : P ≠ w.heap.size := by have := hP.1; omega
  have nM : M ≠ w.heap.size := by have := hM.1; omega
  clear hP hM al
  go_enter Try.func51, Try.ntmps51
  go_upto_region 1 with fail
  obtain ⟨u, hu⟩ : ∃ u, u = w.alloc (.cells #[.slice none 0 0, .slice none 0 0, .int .i64 0, .int .i64 0, .slice none 0 0] 25) := ⟨_, rfl⟩
  obtain ⟨Q, hQ⟩ : ∃ Q, Q = w.heap.size := ⟨_, rfl⟩
  rw [← hu] at HP HM HQ HG
  rw [← hQ] at HQ nP nM
  rw [← hu, ← hQ]
  have hQw : w.heap.size ≤ Q := by omega
  clear hu hQ
  have p0 := HP.out.c 0 rfl
  have p1 := HP.out.c 1 rfl
  have p2 := HP.out.c 2 rfl
  have p3 := HP.out.c 3 rfl
  have p4 := HP.out.c 4 rfl
  have pm := HM.out.c 0 rfl
  have q0 := HQ.out.c 0 rfl
  have q1 := HQ.out.c 1 rfl
  have q2 := HQ.out.c 2 rfl
  have q3 := HQ.out.c 3 rfl
  have q4 := HQ.out.c 4 rfl
  have f0 := HQ.out.f 0 rfl
  have f1 := HQ.out.f 1 rfl
  have f2 := HQ.out.f 2 rfl
  have f3 := HQ.out.f 3 rfl
  have f4 := HQ.out.f 4 rfl
  have zp := HP.out.1
  have zm := HM.out.1
  have zq := HQ.out.1
  go_region
  all_goals
    clear p0 p1 p2 p3 p4 pm zp zm
    go_wp2_with fail
    refine bodyPost_ret (v := .tuple #[.agg #[.slice A n c, .slice A2 n2 c2, .int .i64 Ac, .int .i64 Pe, .slice A3 m c3], .slice A4 mm c4, .slice none 0 0, .int .i64 e]) (by simp [results, Try.results51, go_sem, q0, f0, q1, f1, q2, f2, q3, f3, q4, f4, zq] <;> first | rfl | ((repeat' apply And.intro) <;> rfl)) rfl ⟨rfl, below_set5 HG.out.drew hQw _ _ _ _ _⟩
end Go.Proofs.Ytamajedopofcoaa
set_option linter.unusedVariables false
set_option linter.unusedSimpArgs false
namespace Go.Proofs.Ytamajedopofcoaa
open Go.RowKit
/-- append of bytes in a drawn region -/
theorem step_bt {ops : Array Oper} {o : Oper} {a : Act} {K : Act → World → Prop} {Q : Exit → Act → World → Prop} {E : Prop} {w : World} (hgd : o.guard = none) (s x : Operand)
    (ho : o.op = .call { callee := .builtin .append, args := #[s, x], argTypes := #[46, 46] }) (base n : Nat) (v : Value) (l : List Int) (hs : a.eval s = v) (hown : w.ownsRow base 5 1 v n (l.map (Value.int .u8)))
    (b q m c : Nat) (l2 : List Int) (hx : a.eval x = .slice (some ⟨b, q, none⟩) m c) (hl2 : l2.length = m) (hb : Ik .u8 w (some ⟨b, q, none⟩) l2) (hm : 0 < m) (hsm : n + m ≤ 1000000) (hbase : base ≤ w.heap.size) (d : Nat) (hd : n + m = d)
    (h : ∀ g cap w', base ≤ g → g < w'.heap.size → d ≤ cap → Ik .u8 w' (some ⟨g, 0, none⟩) (l ++ l2) → Below base w w' → K (a.put o.dst (.slice (some ⟨g, 0, none⟩) d cap)) w') :
    if Region.wanted o (yielded ops a.tmps) = true then Oper.wp Try.prog o a w K Q else E := by
  subst hd
  obtain ⟨i0, hi, hz0, hz1, hz2⟩ := info_parts info5
  refine step_append_lies w hgd s x 46 ho base 5 i0 (.int .u8 0) 1 1 Try.underlying46 hi hz0 hz1 hz2 rfl (by decide) v n (l.map (Value.int .u8)) hs hown ⟨b, q, none⟩ m c (l2.map (Value.int .u8)) hx (by simp [hl2]) hb.news (one_int _ _) hm (by unfold maxLen; omega) (by omega) hbase w.heap.size rfl ?_
  intro g cap w' h1 h2 _ h4
  rw [← List.map_append] at h1
  obtain ⟨A, c', hv, hc', _, hik, _, _⟩ := own_bt h1
  injection hv with hv1 _ hv2
  subst hv1 hv2
  exact h g cap w' (own_ge h1 g rfl) h4 hc' hik (grown_below hown h2 hbase)
end Go.Proofs.Ytamajedopofcoaa
