/-
  The contract of command for a selection. No condition.
-/
import Derived.Test.YtamajedopofcoaaZD
import Derived.Test.YtamajedopofcoaaZHeld3
import Derived.Test.YtamajedopofcoaaZUni
set_option linter.unusedVariables false
set_option linter.unusedSimpArgs false
namespace Go.Proofs.Ytamajedopofcoaa
open Go.RowKit
theorem drew_cell (w : World) (a : Addr) : w.drew.cell? a = w.cell? a := rfl
theorem cell_far5d {w : World} {P b o : Nat} (h : P ≠ b) (v0 v1 v2 v3 v4 : Value) : ((((((w.setCell ⟨P, 0, none⟩ v0).setCell ⟨P, 1, none⟩ v1).setCell ⟨P, 2, none⟩ v2).setCell ⟨P, 3, none⟩ v3).setCell ⟨P, 4, none⟩ v4).drew).cell? ⟨b, o, none⟩ = w.cell? ⟨b, o, none⟩ := (drew_cell _ _).trans (cell_far5 h v0 v1 v2 v3 v4)
set_option maxRecDepth 100000 in
set_option maxHeartbeats 16000000 in
open Go.Maps in
theorem cmd41_selno (A : Option Addr) (n c : Nat) (A2 : Option Addr) (n2 c2 : Nat) (Ac Pe : Int) (A3 : Option Addr) (m c3 : Nat) (R W : List Int) (ch : List (Int × Int)) (A4 : Option Addr) (mm c4 : Nat) (b o c5 : Nat) (x eq : Int) (q : PG) (w : World) (hl : R.length = n) (hb : Ik .i64 w A R) (hc : n ≤ c) (hl2 : W.length = n2) (hb2 : Ik .i64 w A2 W) (hc2 : n2 ≤ c2) (hl3 : ch.length = m) (hb3 : Ik .i64 w A3 (flat ch)) (hc3 : m ≤ c3) (hs : n ≤ 5000) (hs2 : n2 ≤ 5000) (hs3 : m ≤ 5000) (h0 : w.cell? ⟨b, o, none⟩ = some (.int .u8 3)) (hbl : b < w.heap.size) (hc5 : 2 ≤ c5) (h1 : w.cell? ⟨b, o + 1, none⟩ = some (.int .u8 x)) (x0 : 0 ≤ x) (x1 : x ≤ 255) (hr : selM ⟨R, W, Ac, Pe, ch⟩ x = (q, eq)) (her : eq ≠ 0) : Calls Try.prog 41 #[.agg #[.slice A n c, .slice A2 n2 c2, .int .i64 Ac, .int .i64 Pe, .slice A3 m c3], .slice A4 mm c4, .slice (some ⟨b, o, none⟩) 2 c5] w (fun r w' => r = .returned (.tuple #[.agg #[.slice A n c, .slice A2 n2 c2, .int .i64 Ac, .int .i64 Pe, .slice A3 m c3], .slice A4 mm c4, .slice none 0 0, .int .i64 eq]) ∧ Below w.heap.size w w') := by
  have KS := fun w h h2 h3 => sel17u A n c A2 n2 c2 Ac Pe A3 m c3 R W ch x w hl h hc hl2 h2 hc2 hl3 h3 hc3 hs hs2 hs3
  rw [hr] at KS
  obtain ⟨Rq, Wq, Acq, Peq, Chq⟩ := q
  simp only at KS
  replace KS := Lib.hid KS
  have HWX := Lib.hid (show IntKind.i64.wrap x = x by rw [IntKind.wrap_i64]; omega)
  have HB1 := Lib.hid hb
  have HB2 := Lib.hid hb2
  have HB3 := Lib.hid hb3
  have e1 : (eq != 0) = true := by simp [her]
  have e2 : decide (eq = 0) = false := by simp [her]
  have e3 : (eq == 0) = false := by simp [her]
  clear her
  clear hl hl2 hl3 hb hb2 hb3 hr
  have hmm := @run_makeMap Try.prog
  go_enter Try.func41, Try.ntmps41
  go_upto_region 2 with fail
  obtain ⟨w8, hw8⟩ : ∃ wx, wx = ((w.alloc (.cells #[.slice A n c, .slice A2 n2 c2, .int .i64 Ac, .int .i64 Pe, .slice A3 m c3] 25)).alloc (.cells #[.slice A4 mm c4] 45)).alloc (.cells #[.slice none 0 0, .slice none 0 0, .int .i64 0, .int .i64 0, .slice none 0 0] 25) := ⟨_, rfl⟩
  have G8 : Below w.heap.size w w8 := by rw [hw8]; go_grown
  have z8 : w8.heap.size = w.heap.size + 3 := by rw [hw8]; simp
  have CP : Cl w.heap.size w8 [.slice A n c, .slice A2 n2 c2, .int .i64 Ac, .int .i64 Pe, .slice A3 m c3] := by rw [hw8]; exact ((Cl.new (w := w) rfl [.slice A n c, .slice A2 n2 c2, .int .i64 Ac, .int .i64 Pe, .slice A3 m c3] 25).below ((Below.refl _ _).alloc (Nat.le_refl _) _)).below ((Below.refl _ _).alloc (Nat.le_refl _) _)
  have CM : Cl (w.heap.size + 1) w8 [.slice A4 mm c4] := by rw [hw8]; exact (Cl.new (P := w.heap.size + 1) (by simp) [.slice A4 mm c4] 45).below ((Below.refl _ _).alloc (Nat.le_refl _) _)
  have CQ : Cl (w.heap.size + 1 + 1) w8 [.slice none 0 0, .slice none 0 0, .int .i64 0, .int .i64 0, .slice none 0 0] := by rw [hw8]; exact Cl.new (by simp) [.slice none 0 0, .slice none 0 0, .int .i64 0, .int .i64 0, .slice none 0 0] 25
  rw [← hw8]
  have HZ8 := Lib.hid z8
  clear hw8 z8
  have hown0 := World.ownsMap_made (H := Unit) w8 Try.prog 5 (plainElem Try.prog 3)
  go_upto_region 3 with (first | (refine insert_own _ rfl _ _ _ 78 rfl 5 3 (int_keyed Try.underlying5) Try.underlying78 (plainElem Try.prog 3) _ 0 _ rfl hown0 (by unfold maxLen; omega) _ _ _ rfl rfl (keyOf_int_mk Try.underlying5 (a := 1) rfl) _ [] (plainElem_int Try.underlying3 (a := 3) rfl) ?_; intro m1 hown1 hgr1) | (refine insert_own _ rfl _ _ _ 78 rfl 5 3 (int_keyed Try.underlying5) Try.underlying78 (plainElem Try.prog 3) _ 1 _ rfl hown1 (by unfold maxLen; omega) _ _ _ rfl rfl (keyOf_int_mk Try.underlying5 (a := 2) rfl) _ [] (plainElem_int Try.underlying3 (a := 11) rfl) ?_; intro m2 hown2 hgr2) | (refine insert_own _ rfl _ _ _ 78 rfl 5 3 (int_keyed Try.underlying5) Try.underlying78 (plainElem Try.prog 3) _ 2 _ rfl hown2 (by unfold maxLen; omega) _ _ _ rfl rfl (keyOf_int_mk Try.underlying5 (a := 3) rfl) _ [] (plainElem_int Try.underlying3 (a := 2) rfl) ?_; intro m3 hown3 hgr3) | (refine insert_own _ rfl _ _ _ 78 rfl 5 3 (int_keyed Try.underlying5) Try.underlying78 (plainElem Try.prog 3) _ 3 _ rfl hown3 (by unfold maxLen; omega) _ _ _ rfl rfl (keyOf_int_mk Try.underlying5 (a := 5) rfl) _ [] (plainElem_int Try.underlying3 (a := 2) rfl) ?_; intro m4 hown4 hgr4) | (refine insert_own _ rfl _ _ _ 78 rfl 5 3 (int_keyed Try.underlying5) Try.underlying78 (plainElem Try.prog 3) _ 4 _ rfl hown4 (by unfold maxLen; omega) _ _ _ rfl rfl (keyOf_int_mk Try.underlying5 (a := 6) rfl) _ [] (plainElem_int Try.underlying3 (a := 2) rfl) ?_; intro m5 hown5 hgr5))
  have g0 : Below w8.heap.size w8 (w8.alloc (.map #[] 0)) := (Below.refl _ _).alloc (Nat.le_refl _) _
  have hBg : ∀ k, some w8.heap.size = some k → w8.heap.size ≤ k := fun k e => by injection e with e; omega
  have g1 := g0.grown hgr1 g0.size hBg
  have g2 := g1.grown hgr2 g1.size hBg
  have g3 := g2.grown hgr3 g2.size hBg
  have g4 := g3.grown hgr4 g3.size hBg
  have g5 := g4.grown hgr5 g4.size hBg
  have s1 : m5.cell? ⟨b, o, none⟩ = some (.int .u8 3) := ((bcell (chain G8 g5)).1 b o hbl).trans h0
  have HP5 := Lib.hid (CP.below g5)
  have HM5 := Lib.hid (CM.below g5)
  have HQ5 := Lib.hid (CQ.below g5)
  have HG5 := Lib.hid (chain G8 g5)
  have hb5 : b < m5.heap.size := by have := g5.size; have := HZ8.out; omega
  clear hown0 hown1 hown2 hown3 hown4 hgr1 hgr2 hgr3 hgr4 hgr5 g0 g1 g2 g3 g4 g5 hBg CP CM CQ G8 h0
  go_upto_region 4 with (first | (at_lookup; refine wpList_lookup_own_ok_int _ rfl _ _ 78 rfl 5 3 .i64 (int_keyed Try.underlying5) Try.underlying78 Try.underlying3 (by kernel_rfl) _ 5 _ rfl hown5 _ _ rfl (keyOf_int_mk Try.underlying5 (a := 3) rfl) ?_; intro c0 hat hwc))
  have hc03 : c0 = 2 := by
    have e : (DataW.lit (Lit.int .i64 2) : DataW Unit) = .lit (.int .i64 c0) := hat
    injection e with e; injection e with _ e; exact e.symm
  subst hc03
  rw [show Maps.has ((((((DataW.map [] : DataW Unit).put (.int .u8 1) (.lit (.int .i64 3))).put (.int .u8 2) (.lit (.int .i64 11))).put (.int .u8 3) (.lit (.int .i64 2))).put (.int .u8 5) (.lit (.int .i64 2))).put (.int .u8 6) (.lit (.int .i64 2))) (Lit.int .u8 3) = true from by kernel_rfl]
  clear hat hwc hown5
  have s2 : m5.cell? ⟨b, o + 1, none⟩ = some (.int .u8 x) := ((bcell HG5.out).1 b _ hbl).trans h1
  clear h1
  go_upto_region 18 with fail
  have hPm : w.heap.size < m5.heap.size := HP5.out.1
  have hm3 : w.heap.size + 3 ≤ m5.heap.size := HQ5.out.1
  have f1' : (1 : Int) < (2 : Int) := by decide
  have p0 := HP5.out.c 0 rfl
  have p1 := HP5.out.c 1 rfl
  have p2 := HP5.out.c 2 rfl
  have p3 := HP5.out.c 3 rfl
  have p4 := HP5.out.c 4 rfl
  go_cut [18, 19] from 100 to 108 (fun v18 v19 wc => ∃ (T : Nat) (X1 : Option Addr) (k1 : Nat) (X2 : Option Addr) (k2 : Nat) (X3 : Option Addr) (k3 : Nat), v18 = .pointer (some ⟨T, 0, none⟩) ∧ v19 = .int .i64 eq ∧ m5.heap.size ≤ T ∧ Rq.length ≤ k1 ∧ Wq.length ≤ k2 ∧ Chq.length ≤ k3 ∧ Cl T wc [.slice X1 Rq.length k1, .slice X2 Wq.length k2, .int .i64 Acq, .int .i64 Peq, .slice X3 Chq.length k3] ∧ (Ik .i64 wc X1 Rq ∧ Ik .i64 wc X2 Wq ∧ Ik .i64 wc X3 (flat Chq)) ∧ (Fr m5.heap.size X1 ∧ Fr m5.heap.size X2 ∧ Fr m5.heap.size X3) ∧ Below m5.heap.size m5 wc)
  case first =>
    refine region_K (fun W' => (∀ b o, b < m5.heap.size → W'.cell? ⟨b, o, none⟩ = m5.cell? ⟨b, o, none⟩) ∧ Below m5.heap.size m5 W') 5 (by kernel_rfl) (Kp.mk (Below.refl _ _).drew) (fun hHeld => ?_)
    refine K_take' (i := 1) (v := ?_) rfl (by kernel_rfl) (by kernel_rfl) (by kernel_rfl) (by kernel_rfl) (fun _ _ _ h => h) (Or.inl ⟨by kernel_rfl, ?_⟩) hHeld ?_
    rotate_left 1
    · intro W8 hSw
      clear hSw
      go_simp
      all_goals with_reducible rfl
    try simp only [Act.put, List.setIfInBounds_toArray, List.set_cons_zero, List.set_cons_succ]
    refine K_take (i := 0) (v := ?_) rfl (by kernel_rfl) (by kernel_rfl) (by kernel_rfl) (by kernel_rfl) (by kernel_rfl) (fun _ _ _ h => h) (Or.inl ⟨by kernel_rfl, ?_⟩) hHeld ?_
    rotate_left 1
    · intro W8 hSw
      (try dsimp only at hSw)
      go_simp
      all_goals with_reducible rfl
    try simp only [Act.put, List.setIfInBounds_toArray, List.set_cons_zero, List.set_cons_succ]
    refine K_take' (i := 2) (v := ?_) rfl (by kernel_rfl) (by kernel_rfl) (by kernel_rfl) (by kernel_rfl) (fun _ _ _ h => h) (Or.inl ⟨by kernel_rfl, ?_⟩) hHeld ?_
    rotate_left 1
    · intro W8 hSw
      clear hSw
      go_simp
      all_goals with_reducible rfl
    try simp only [Act.put, List.setIfInBounds_toArray, List.set_cons_zero, List.set_cons_succ]
    refine K_take (i := 3) (v := ?_) rfl (by kernel_rfl) (by kernel_rfl) (by kernel_rfl) (by kernel_rfl) (by kernel_rfl) (fun _ _ _ h => h) (Or.inl ⟨by kernel_rfl, ?_⟩) hHeld ?_
    rotate_left 1
    · intro W8 hSw
      (try dsimp only at hSw)
      go_simp
      all_goals with_reducible rfl
    try simp only [Act.put, List.setIfInBounds_toArray, List.set_cons_zero, List.set_cons_succ]
    refine K_take' (i := 4) (v := ?_) rfl (by kernel_rfl) (by kernel_rfl) (by kernel_rfl) (by kernel_rfl) (fun _ _ _ h => h) (Or.inl ⟨by kernel_rfl, ?_⟩) hHeld ?_
    rotate_left 1
    · intro W8 hSw
      clear hSw
      go_simp
      all_goals with_reducible rfl
    try simp only [Act.put, List.setIfInBounds_toArray, List.set_cons_zero, List.set_cons_succ]
    refine K_two (j := 9) (by kernel_rfl) (by kernel_rfl) rfl rfl (fun K hK => ?_) (fun K hK => ?_)
    · go_simp
      rw [HWX.out]
      refine (KS.out _ ((HB1.out.below HG5.out).below hHeld.2) ((HB2.out.below HG5.out).below hHeld.2) ((HB3.out.below HG5.out).below hHeld.2)).mono ?_
      rintro r w10 h
      obtain ⟨X1, _, k1, X2, _, k2, X3, _, k3, rfl, rfl, g1, i1, rfl, g2, i2, rfl, g3, i3, f1, f2, f3, hbW⟩ := h
      have hkW := Kp.next hHeld hbW
      refine hK.out _ _ ?_
      clear hK K
      try simp only [Act.put, List.setIfInBounds_toArray, List.set_cons_zero, List.set_cons_succ]
      refine wpAny_take (i := 6) (v := ?_) rfl (by kernel_rfl) (by kernel_rfl) (by kernel_rfl) (fun _ _ _ h => h) (Or.inl ⟨by kernel_rfl, ?_⟩) ?_
      rotate_left 1
      · intro W8
        go_simp
        all_goals with_reducible rfl
      try simp only [Act.put, List.setIfInBounds_toArray, List.set_cons_zero, List.set_cons_succ]
      refine wpAny_take (i := 7) (v := ?_) rfl (by kernel_rfl) (by kernel_rfl) (by kernel_rfl) (fun _ _ _ h => h) (Or.inl ⟨by kernel_rfl, ?_⟩) ?_
      rotate_left 1
      · intro W8
        go_simp
        all_goals with_reducible rfl
      try simp only [Act.put, List.setIfInBounds_toArray, List.set_cons_zero, List.set_cons_succ]
      refine wpAny_take (i := 8) (v := ?_) rfl (by kernel_rfl) (by kernel_rfl) (by kernel_rfl) (fun _ _ _ h => h) (Or.inl ⟨by kernel_rfl, ?_⟩) ?_
      rotate_left 1
      · intro W8
        go_simp
        all_goals with_reducible rfl
      try simp only [Act.put, List.setIfInBounds_toArray, List.set_cons_zero, List.set_cons_succ]
      refine wpAny_ready (rs := [9]) (by kernel_rfl) (by simp) (AllReady.cons rfl (fun K hK => ?_) AllReady.nil)
      go_simp
      refine hK _ _ ?_
      clear hK K
      try simp only [Act.put, List.setIfInBounds_toArray, List.set_cons_zero, List.set_cons_succ]
      refine wpAny_ready (rs := [10]) (by kernel_rfl) (by simp) (AllReady.cons rfl (fun K hK => ?_) AllReady.nil)
      go_simp
      refine hK _ _ ?_
      clear hK K
      try simp only [Act.put, List.setIfInBounds_toArray, List.set_cons_zero, List.set_cons_succ]
      refine wpAny_ready (rs := [11]) (by kernel_rfl) (by simp) (AllReady.cons rfl (fun K hK => ?_) AllReady.nil)
      go_simp
      refine hK _ _ ?_
      clear hK K
      try simp only [Act.put, List.setIfInBounds_toArray, List.set_cons_zero, List.set_cons_succ]
      refine wpAny_done (by kernel_rfl) ?_ _
      have hz9 := hkW.2.size
      have HKW := Lib.hid hkW.2
      have HI1 := Lib.hid i1
      have HI2 := Lib.hid i2
      have HI3 := Lib.hid i3
      have hF1 : Fr m5.heap.size X1 := f1
      have hF2 : Fr m5.heap.size X2 := f2
      have hF3 : Fr m5.heap.size X3 := f3
      clear i1 i2 i3 f1 f2 f3 hkW hbW hHeld p0 p1 p2 p3 p4
      go_wp2_with fail
      go_meet
      case rel => 
        have al : Below w10.heap.size w10 (w10.alloc (.cells #[.slice X1 Rq.length k1, .slice X2 Wq.length k2, .int .i64 Acq, .int .i64 Peq, .slice X3 Chq.length k3] 25)) := (Below.refl _ _).alloc (Nat.le_refl _) _
        exact ⟨w10.heap.size, X1, k1, X2, k2, X3, k3, rfl, rfl, hz9, g1, g2, g3, Cl.new rfl [.slice X1 Rq.length k1, .slice X2 Wq.length k2, .int .i64 Acq, .int .i64 Peq, .slice X3 Chq.length k3] 25, ⟨HI1.out.below al, HI2.out.below al, HI3.out.below al⟩, ⟨hF1, hF2, hF3⟩, HKW.out.alloc hz9 _⟩
    · go_simp
      refine hK.out _ _ (Kp.mk (show Below m5.heap.size m5 _ from ((Below.refl _ _).alloc (Nat.le_refl _) _).drew)) (fun hHeld2 => ?_)
      clear hK K
      try simp only [Act.put, List.setIfInBounds_toArray, List.set_cons_zero, List.set_cons_succ]
      refine K_step (by kernel_rfl) (by kernel_rfl) rfl (fun K hK => ?_)
      go_simp
      rw [HWX.out]
      refine (KS.out _ ((HB1.out.below HG5.out).below hHeld2.2) ((HB2.out.below HG5.out).below hHeld2.2) ((HB3.out.below HG5.out).below hHeld2.2)).mono ?_
      rintro r w10 h
      obtain ⟨X1, _, k1, X2, _, k2, X3, _, k3, rfl, rfl, g1, i1, rfl, g2, i2, rfl, g3, i3, f1, f2, f3, hbW⟩ := h
      have hkW := Kp.next hHeld2 hbW
      refine hK.out _ _ ?_
      clear hK K
      try simp only [Act.put, List.setIfInBounds_toArray, List.set_cons_zero, List.set_cons_succ]
      have hT9 : m5.heap.size < w10.heap.size := by have := hbW.size; simp at this; omega
      have CT : Cl m5.heap.size w10 [.slice none 0 0, .slice none 0 0, .int .i64 0, .int .i64 0, .slice none 0 0] := ((Cl.new (w := m5) rfl [.slice none 0 0, .slice none 0 0, .int .i64 0, .int .i64 0, .slice none 0 0] 25).below ((Below.refl _ _).drew)).below hbW
      have HCT := Lib.hid CT
      have t0 := CT.c 0 rfl
      have t1 := CT.c 1 rfl
      have t2 := CT.c 2 rfl
      have t3 := CT.c 3 rfl
      have t4 := CT.c 4 rfl
      have q0 := CT.f 0 rfl
      have q1 := CT.f 1 rfl
      have q2 := CT.f 2 rfl
      have q3 := CT.f 3 rfl
      have q4 := CT.f 4 rfl
      have zt := CT.1
      clear CT
      refine wpAny_take (i := 6) (v := ?_) rfl (by kernel_rfl) (by kernel_rfl) (by kernel_rfl) (fun _ _ _ h => h) (Or.inl ⟨by kernel_rfl, ?_⟩) ?_
      rotate_left 1
      · intro W8
        go_simp
        all_goals with_reducible rfl
      try simp only [Act.put, List.setIfInBounds_toArray, List.set_cons_zero, List.set_cons_succ]
      refine wpAny_take (i := 7) (v := ?_) rfl (by kernel_rfl) (by kernel_rfl) (by kernel_rfl) (fun _ _ _ h => h) (Or.inl ⟨by kernel_rfl, ?_⟩) ?_
      rotate_left 1
      · intro W8
        go_simp
        all_goals with_reducible rfl
      try simp only [Act.put, List.setIfInBounds_toArray, List.set_cons_zero, List.set_cons_succ]
      refine wpAny_take (i := 8) (v := ?_) rfl (by kernel_rfl) (by kernel_rfl) (by kernel_rfl) (fun _ _ _ h => h) (Or.inl ⟨by kernel_rfl, ?_⟩) ?_
      rotate_left 1
      · intro W8
        go_simp
        all_goals with_reducible rfl
      try simp only [Act.put, List.setIfInBounds_toArray, List.set_cons_zero, List.set_cons_succ]
      refine wpAny_ready (rs := [10]) (by kernel_rfl) (by simp) (AllReady.cons rfl (fun K hK => ?_) AllReady.nil)
      go_simp
      refine hK _ _ ?_
      clear hK K
      try simp only [Act.put, List.setIfInBounds_toArray, List.set_cons_zero, List.set_cons_succ]
      refine wpAny_ready (rs := [11]) (by kernel_rfl) (by simp) (AllReady.cons rfl (fun K hK => ?_) AllReady.nil)
      go_simp
      refine hK _ _ ?_
      clear hK K
      try simp only [Act.put, List.setIfInBounds_toArray, List.set_cons_zero, List.set_cons_succ]
      refine wpAny_done (by kernel_rfl) ?_ _
      have HKW := Lib.hid hkW.2
      have HI1 := Lib.hid i1
      have HI2 := Lib.hid i2
      have HI3 := Lib.hid i3
      have hF1 : Fr (m5.heap.size + 1) X1 := fun b o e => by have := f1 b o e; simpa using this
      have hF2 : Fr (m5.heap.size + 1) X2 := fun b o e => by have := f2 b o e; simpa using this
      have hF3 : Fr (m5.heap.size + 1) X3 := fun b o e => by have := f3 b o e; simpa using this
      clear i1 i2 i3 f1 f2 f3 hkW hbW hHeld hHeld2 p0 p1 p2 p3 p4 t0 t1 t2 t3 t4 q0 q1 q2 q3 q4 zt
      go_wp2_with fail
      go_meet
      case rel => 
        exact ⟨m5.heap.size, X1, k1, X2, k2, X3, k3, rfl, rfl, Nat.le_refl _, g1, g2, g3, HCT.out.set5 _ _ _ _ _, ⟨HI1.out.fr5 hF1 (Nat.lt_succ_self _) _ _ _ _ _, HI2.out.fr5 hF2 (Nat.lt_succ_self _) _ _ _ _ _, HI3.out.fr5 hF3 (Nat.lt_succ_self _) _ _ _ _ _⟩, ⟨fr_le hF1 (Nat.le_succ _), fr_le hF2 (Nat.le_succ _), fr_le hF3 (Nat.le_succ _)⟩, below_set5 HKW.out (Nat.le_refl _) _ _ _ _ _⟩
  case rest =>
    obtain ⟨T, X1, k1, X2, k2, X3, k3, rfl, rfl, hT, g1, g2, g3, hC, hI, hF, hB⟩ := hcut
    have HPN := Lib.hid (HP5.out.below hB)
    have HMN := Lib.hid (HM5.out.below hB)
    have HQN := Lib.hid (HQ5.out.below hB)
    have HGN := Lib.hid (chain HG5.out hB)
    clear hC hI hF hB HP5 HM5 HQ5 HG5 HB1 HB2 HB3 p0 p1 p2 p3 p4
    go_wp2_with fail
    have hPP := HPN.out
    have hMM := HMN.out
    refine (fail51 A n c A2 n2 c2 Ac Pe A3 m c3 R W ch A4 mm c4 eq w.heap.size (w.heap.size + 1) wc hPP hMM).mono ?_
    rintro r wF ⟨rfl, hbF⟩
    have HQF := Lib.hid (HQN.out.below hbF)
    have HGF := Lib.hid (chain HGN.out hbF)
    clear hbF hPP hMM HPN HMN HQN HGN
    have q0 := HQF.out.c 0 rfl
    have q1 := HQF.out.c 1 rfl
    have q2 := HQF.out.c 2 rfl
    have q3 := HQF.out.c 3 rfl
    have q4 := HQF.out.c 4 rfl
    have f0 := HQF.out.f 0 rfl
    have f1 := HQF.out.f 1 rfl
    have f2 := HQF.out.f 2 rfl
    have f3 := HQF.out.f 3 rfl
    have f4 := HQF.out.f 4 rfl
    have zq := HQF.out.1
    go_wp2_with fail
    refine bodyPost_ret (v := .tuple #[.agg #[.slice A n c, .slice A2 n2 c2, .int .i64 Ac, .int .i64 Pe, .slice A3 m c3], .slice A4 mm c4, .slice none 0 0, .int .i64 eq]) (by simp [results, Try.results41, go_sem, q0, f0, q1, f1, q2, f2, q3, f3, q4, f4, zq] <;> first | rfl | ((repeat' apply And.intro) <;> rfl)) rfl ⟨rfl, below_set5 HGF.out (by omega) _ _ _ _ _⟩
set_option maxRecDepth 100000 in
set_option maxHeartbeats 16000000 in
open Go.Maps in
theorem cmd41_selok (A : Option Addr) (n c : Nat) (A2 : Option Addr) (n2 c2 : Nat) (Ac Pe : Int) (A3 : Option Addr) (m c3 : Nat) (R W : List Int) (ch : List (Int × Int)) (A4 : Option Addr) (mm c4 : Nat) (b o c5 : Nat) (x : Int) (q : PG) (w : World) (hl : R.length = n) (hb : Ik .i64 w A R) (hc : n ≤ c) (hl2 : W.length = n2) (hb2 : Ik .i64 w A2 W) (hc2 : n2 ≤ c2) (hl3 : ch.length = m) (hb3 : Ik .i64 w A3 (flat ch)) (hc3 : m ≤ c3) (hs : n ≤ 5000) (hs2 : n2 ≤ 5000) (hs3 : m ≤ 5000) (h0 : w.cell? ⟨b, o, none⟩ = some (.int .u8 3)) (hbl : b < w.heap.size) (hc5 : 2 ≤ c5) (h1 : w.cell? ⟨b, o + 1, none⟩ = some (.int .u8 x)) (x0 : 0 ≤ x) (x1 : x ≤ 255) (hr : selM ⟨R, W, Ac, Pe, ch⟩ x = (q, 0)) : Calls Try.prog 41 #[.agg #[.slice A n c, .slice A2 n2 c2, .int .i64 Ac, .int .i64 Pe, .slice A3 m c3], .slice A4 mm c4, .slice (some ⟨b, o, none⟩) 2 c5] w (fun r w' => ∃ X1 k1 X2 k2 X3 k3, r = .returned (.tuple #[.agg #[.slice X1 q.R.length k1, .slice X2 q.W.length k2, .int .i64 q.Ac, .int .i64 q.Pe, .slice X3 q.Ch.length k3], .slice A4 mm c4, .slice none 0 0, .int .i64 0]) ∧ q.R.length ≤ k1 ∧ q.W.length ≤ k2 ∧ q.Ch.length ≤ k3 ∧ Ik .i64 w' X1 q.R ∧ Ik .i64 w' X2 q.W ∧ Ik .i64 w' X3 (flat q.Ch) ∧ (Fr w.heap.size X1 ∧ Fr w.heap.size X2 ∧ Fr w.heap.size X3) ∧ Below w.heap.size w w') := by
  have KS := fun w h h2 h3 => sel17u A n c A2 n2 c2 Ac Pe A3 m c3 R W ch x w hl h hc hl2 h2 hc2 hl3 h3 hc3 hs hs2 hs3
  rw [hr] at KS
  obtain ⟨Rq, Wq, Acq, Peq, Chq⟩ := q
  simp only at KS
  replace KS := Lib.hid KS
  have HWX := Lib.hid (show IntKind.i64.wrap x = x by rw [IntKind.wrap_i64]; omega)
  have HB1 := Lib.hid hb
  have HB2 := Lib.hid hb2
  have HB3 := Lib.hid hb3
  clear hl hl2 hl3 hb hb2 hb3 hr
  have hmm := @run_makeMap Try.prog
  go_enter Try.func41, Try.ntmps41
  go_upto_region 2 with fail
  obtain ⟨w8, hw8⟩ : ∃ wx, wx = ((w.alloc (.cells #[.slice A n c, .slice A2 n2 c2, .int .i64 Ac, .int .i64 Pe, .slice A3 m c3] 25)).alloc (.cells #[.slice A4 mm c4] 45)).alloc (.cells #[.slice none 0 0, .slice none 0 0, .int .i64 0, .int .i64 0, .slice none 0 0] 25) := ⟨_, rfl⟩
  have G8 : Below w.heap.size w w8 := by rw [hw8]; go_grown
  have z8 : w8.heap.size = w.heap.size + 3 := by rw [hw8]; simp
  have CP : Cl w.heap.size w8 [.slice A n c, .slice A2 n2 c2, .int .i64 Ac, .int .i64 Pe, .slice A3 m c3] := by rw [hw8]; exact ((Cl.new (w := w) rfl [.slice A n c, .slice A2 n2 c2, .int .i64 Ac, .int .i64 Pe, .slice A3 m c3] 25).below ((Below.refl _ _).alloc (Nat.le_refl _) _)).below ((Below.refl _ _).alloc (Nat.le_refl _) _)
  have CM : Cl (w.heap.size + 1) w8 [.slice A4 mm c4] := by rw [hw8]; exact (Cl.new (P := w.heap.size + 1) (by simp) [.slice A4 mm c4] 45).below ((Below.refl _ _).alloc (Nat.le_refl _) _)
  have CQ : Cl (w.heap.size + 1 + 1) w8 [.slice none 0 0, .slice none 0 0, .int .i64 0, .int .i64 0, .slice none 0 0] := by rw [hw8]; exact Cl.new (by simp) [.slice none 0 0, .slice none 0 0, .int .i64 0, .int .i64 0, .slice none 0 0] 25
  rw [← hw8]
  have HZ8 := Lib.hid z8
  clear hw8 z8
  have hown0 := World.ownsMap_made (H := Unit) w8 Try.prog 5 (plainElem Try.prog 3)
  go_upto_region 3 with (first | (refine insert_own _ rfl _ _ _ 78 rfl 5 3 (int_keyed Try.underlying5) Try.underlying78 (plainElem Try.prog 3) _ 0 _ rfl hown0 (by unfold maxLen; omega) _ _ _ rfl rfl (keyOf_int_mk Try.underlying5 (a := 1) rfl) _ [] (plainElem_int Try.underlying3 (a := 3) rfl) ?_; intro m1 hown1 hgr1) | (refine insert_own _ rfl _ _ _ 78 rfl 5 3 (int_keyed Try.underlying5) Try.underlying78 (plainElem Try.prog 3) _ 1 _ rfl hown1 (by unfold maxLen; omega) _ _ _ rfl rfl (keyOf_int_mk Try.underlying5 (a := 2) rfl) _ [] (plainElem_int Try.underlying3 (a := 11) rfl) ?_; intro m2 hown2 hgr2) | (refine insert_own _ rfl _ _ _ 78 rfl 5 3 (int_keyed Try.underlying5) Try.underlying78 (plainElem Try.prog 3) _ 2 _ rfl hown2 (by unfold maxLen; omega) _ _ _ rfl rfl (keyOf_int_mk Try.underlying5 (a := 3) rfl) _ [] (plainElem_int Try.underlying3 (a := 2) rfl) ?_; intro m3 hown3 hgr3) | (refine insert_own _ rfl _ _ _ 78 rfl 5 3 (int_keyed Try.underlying5) Try.underlying78 (plainElem Try.prog 3) _ 3 _ rfl hown3 (by unfold maxLen; omega) _ _ _ rfl rfl (keyOf_int_mk Try.underlying5 (a := 5) rfl) _ [] (plainElem_int Try.underlying3 (a := 2) rfl) ?_; intro m4 hown4 hgr4) | (refine insert_own _ rfl _ _ _ 78 rfl 5 3 (int_keyed Try.underlying5) Try.underlying78 (plainElem Try.prog 3) _ 4 _ rfl hown4 (by unfold maxLen; omega) _ _ _ rfl rfl (keyOf_int_mk Try.underlying5 (a := 6) rfl) _ [] (plainElem_int Try.underlying3 (a := 2) rfl) ?_; intro m5 hown5 hgr5))
  have g0 : Below w8.heap.size w8 (w8.alloc (.map #[] 0)) := (Below.refl _ _).alloc (Nat.le_refl _) _
  have hBg : ∀ k, some w8.heap.size = some k → w8.heap.size ≤ k := fun k e => by injection e with e; omega
  have g1 := g0.grown hgr1 g0.size hBg
  have g2 := g1.grown hgr2 g1.size hBg
  have g3 := g2.grown hgr3 g2.size hBg
  have g4 := g3.grown hgr4 g3.size hBg
  have g5 := g4.grown hgr5 g4.size hBg
  have s1 : m5.cell? ⟨b, o, none⟩ = some (.int .u8 3) := ((bcell (chain G8 g5)).1 b o hbl).trans h0
  have HP5 := Lib.hid (CP.below g5)
  have HM5 := Lib.hid (CM.below g5)
  have HQ5 := Lib.hid (CQ.below g5)
  have HG5 := Lib.hid (chain G8 g5)
  have hb5 : b < m5.heap.size := by have := g5.size; have := HZ8.out; omega
  clear hown0 hown1 hown2 hown3 hown4 hgr1 hgr2 hgr3 hgr4 hgr5 g0 g1 g2 g3 g4 g5 hBg CP CM CQ G8 h0
  go_upto_region 4 with (first | (at_lookup; refine wpList_lookup_own_ok_int _ rfl _ _ 78 rfl 5 3 .i64 (int_keyed Try.underlying5) Try.underlying78 Try.underlying3 (by kernel_rfl) _ 5 _ rfl hown5 _ _ rfl (keyOf_int_mk Try.underlying5 (a := 3) rfl) ?_; intro c0 hat hwc))
  have hc03 : c0 = 2 := by
    have e : (DataW.lit (Lit.int .i64 2) : DataW Unit) = .lit (.int .i64 c0) := hat
    injection e with e; injection e with _ e; exact e.symm
  subst hc03
  rw [show Maps.has ((((((DataW.map [] : DataW Unit).put (.int .u8 1) (.lit (.int .i64 3))).put (.int .u8 2) (.lit (.int .i64 11))).put (.int .u8 3) (.lit (.int .i64 2))).put (.int .u8 5) (.lit (.int .i64 2))).put (.int .u8 6) (.lit (.int .i64 2))) (Lit.int .u8 3) = true from by kernel_rfl]
  clear hat hwc hown5
  have s2 : m5.cell? ⟨b, o + 1, none⟩ = some (.int .u8 x) := ((bcell HG5.out).1 b _ hbl).trans h1
  clear h1
  go_upto_region 18 with fail
  have hPm : w.heap.size < m5.heap.size := HP5.out.1
  have hm3 : w.heap.size + 3 ≤ m5.heap.size := HQ5.out.1
  have f1' : (1 : Int) < (2 : Int) := by decide
  have p0 := HP5.out.c 0 rfl
  have p1 := HP5.out.c 1 rfl
  have p2 := HP5.out.c 2 rfl
  have p3 := HP5.out.c 3 rfl
  have p4 := HP5.out.c 4 rfl
  go_cut [18, 19] from 100 to 108 (fun v18 v19 wc => ∃ (T : Nat) (X1 : Option Addr) (k1 : Nat) (X2 : Option Addr) (k2 : Nat) (X3 : Option Addr) (k3 : Nat), v18 = .pointer (some ⟨T, 0, none⟩) ∧ v19 = .int .i64 0 ∧ m5.heap.size ≤ T ∧ Rq.length ≤ k1 ∧ Wq.length ≤ k2 ∧ Chq.length ≤ k3 ∧ Cl T wc [.slice X1 Rq.length k1, .slice X2 Wq.length k2, .int .i64 Acq, .int .i64 Peq, .slice X3 Chq.length k3] ∧ (Ik .i64 wc X1 Rq ∧ Ik .i64 wc X2 Wq ∧ Ik .i64 wc X3 (flat Chq)) ∧ (Fr m5.heap.size X1 ∧ Fr m5.heap.size X2 ∧ Fr m5.heap.size X3) ∧ Below m5.heap.size m5 wc)
  case first =>
    refine region_K (fun W' => (∀ b o, b < m5.heap.size → W'.cell? ⟨b, o, none⟩ = m5.cell? ⟨b, o, none⟩) ∧ Below m5.heap.size m5 W') 5 (by kernel_rfl) (Kp.mk (Below.refl _ _).drew) (fun hHeld => ?_)
    refine K_take' (i := 1) (v := ?_) rfl (by kernel_rfl) (by kernel_rfl) (by kernel_rfl) (by kernel_rfl) (fun _ _ _ h => h) (Or.inl ⟨by kernel_rfl, ?_⟩) hHeld ?_
    rotate_left 1
    · intro W8 hSw
      clear hSw
      go_simp
      all_goals with_reducible rfl
    try simp only [Act.put, List.setIfInBounds_toArray, List.set_cons_zero, List.set_cons_succ]
    refine K_take (i := 0) (v := ?_) rfl (by kernel_rfl) (by kernel_rfl) (by kernel_rfl) (by kernel_rfl) (by kernel_rfl) (fun _ _ _ h => h) (Or.inl ⟨by kernel_rfl, ?_⟩) hHeld ?_
    rotate_left 1
    · intro W8 hSw
      (try dsimp only at hSw)
      go_simp
      all_goals with_reducible rfl
    try simp only [Act.put, List.setIfInBounds_toArray, List.set_cons_zero, List.set_cons_succ]
    refine K_take' (i := 2) (v := ?_) rfl (by kernel_rfl) (by kernel_rfl) (by kernel_rfl) (by kernel_rfl) (fun _ _ _ h => h) (Or.inl ⟨by kernel_rfl, ?_⟩) hHeld ?_
    rotate_left 1
    · intro W8 hSw
      clear hSw
      go_simp
      all_goals with_reducible rfl
    try simp only [Act.put, List.setIfInBounds_toArray, List.set_cons_zero, List.set_cons_succ]
    refine K_take (i := 3) (v := ?_) rfl (by kernel_rfl) (by kernel_rfl) (by kernel_rfl) (by kernel_rfl) (by kernel_rfl) (fun _ _ _ h => h) (Or.inl ⟨by kernel_rfl, ?_⟩) hHeld ?_
    rotate_left 1
    · intro W8 hSw
      (try dsimp only at hSw)
      go_simp
      all_goals with_reducible rfl
    try simp only [Act.put, List.setIfInBounds_toArray, List.set_cons_zero, List.set_cons_succ]
    refine K_take' (i := 4) (v := ?_) rfl (by kernel_rfl) (by kernel_rfl) (by kernel_rfl) (by kernel_rfl) (fun _ _ _ h => h) (Or.inl ⟨by kernel_rfl, ?_⟩) hHeld ?_
    rotate_left 1
    · intro W8 hSw
      clear hSw
      go_simp
      all_goals with_reducible rfl
    try simp only [Act.put, List.setIfInBounds_toArray, List.set_cons_zero, List.set_cons_succ]
    refine K_two (j := 9) (by kernel_rfl) (by kernel_rfl) rfl rfl (fun K hK => ?_) (fun K hK => ?_)
    · go_simp
      rw [HWX.out]
      refine (KS.out _ ((HB1.out.below HG5.out).below hHeld.2) ((HB2.out.below HG5.out).below hHeld.2) ((HB3.out.below HG5.out).below hHeld.2)).mono ?_
      rintro r w10 h
      obtain ⟨X1, _, k1, X2, _, k2, X3, _, k3, rfl, rfl, g1, i1, rfl, g2, i2, rfl, g3, i3, f1, f2, f3, hbW⟩ := h
      have hkW := Kp.next hHeld hbW
      refine hK.out _ _ ?_
      clear hK K
      try simp only [Act.put, List.setIfInBounds_toArray, List.set_cons_zero, List.set_cons_succ]
      refine wpAny_take (i := 6) (v := ?_) rfl (by kernel_rfl) (by kernel_rfl) (by kernel_rfl) (fun _ _ _ h => h) (Or.inl ⟨by kernel_rfl, ?_⟩) ?_
      rotate_left 1
      · intro W8
        go_simp
        all_goals with_reducible rfl
      try simp only [Act.put, List.setIfInBounds_toArray, List.set_cons_zero, List.set_cons_succ]
      refine wpAny_take (i := 7) (v := ?_) rfl (by kernel_rfl) (by kernel_rfl) (by kernel_rfl) (fun _ _ _ h => h) (Or.inl ⟨by kernel_rfl, ?_⟩) ?_
      rotate_left 1
      · intro W8
        go_simp
        all_goals with_reducible rfl
      try simp only [Act.put, List.setIfInBounds_toArray, List.set_cons_zero, List.set_cons_succ]
      refine wpAny_take (i := 8) (v := ?_) rfl (by kernel_rfl) (by kernel_rfl) (by kernel_rfl) (fun _ _ _ h => h) (Or.inl ⟨by kernel_rfl, ?_⟩) ?_
      rotate_left 1
      · intro W8
        go_simp
        all_goals with_reducible rfl
      try simp only [Act.put, List.setIfInBounds_toArray, List.set_cons_zero, List.set_cons_succ]
      refine wpAny_ready (rs := [9]) (by kernel_rfl) (by simp) (AllReady.cons rfl (fun K hK => ?_) AllReady.nil)
      go_simp
      refine hK _ _ ?_
      clear hK K
      try simp only [Act.put, List.setIfInBounds_toArray, List.set_cons_zero, List.set_cons_succ]
      refine wpAny_ready (rs := [10]) (by kernel_rfl) (by simp) (AllReady.cons rfl (fun K hK => ?_) AllReady.nil)
      go_simp
      refine hK _ _ ?_
      clear hK K
      try simp only [Act.put, List.setIfInBounds_toArray, List.set_cons_zero, List.set_cons_succ]
      refine wpAny_ready (rs := [11]) (by kernel_rfl) (by simp) (AllReady.cons rfl (fun K hK => ?_) AllReady.nil)
      go_simp
      refine hK _ _ ?_
      clear hK K
      try simp only [Act.put, List.setIfInBounds_toArray, List.set_cons_zero, List.set_cons_succ]
      refine wpAny_done (by kernel_rfl) ?_ _
      have hz9 := hkW.2.size
      have HKW := Lib.hid hkW.2
      have HI1 := Lib.hid i1
      have HI2 := Lib.hid i2
      have HI3 := Lib.hid i3
      have hF1 : Fr m5.heap.size X1 := f1
      have hF2 : Fr m5.heap.size X2 := f2
      have hF3 : Fr m5.heap.size X3 := f3
      clear i1 i2 i3 f1 f2 f3 hkW hbW hHeld p0 p1 p2 p3 p4
      go_wp2_with fail
      go_meet
      case rel => 
        have al : Below w10.heap.size w10 (w10.alloc (.cells #[.slice X1 Rq.length k1, .slice X2 Wq.length k2, .int .i64 Acq, .int .i64 Peq, .slice X3 Chq.length k3] 25)) := (Below.refl _ _).alloc (Nat.le_refl _) _
        exact ⟨w10.heap.size, X1, k1, X2, k2, X3, k3, rfl, rfl, hz9, g1, g2, g3, Cl.new rfl [.slice X1 Rq.length k1, .slice X2 Wq.length k2, .int .i64 Acq, .int .i64 Peq, .slice X3 Chq.length k3] 25, ⟨HI1.out.below al, HI2.out.below al, HI3.out.below al⟩, ⟨hF1, hF2, hF3⟩, HKW.out.alloc hz9 _⟩
    · go_simp
      refine hK.out _ _ (Kp.mk (show Below m5.heap.size m5 _ from ((Below.refl _ _).alloc (Nat.le_refl _) _).drew)) (fun hHeld2 => ?_)
      clear hK K
      try simp only [Act.put, List.setIfInBounds_toArray, List.set_cons_zero, List.set_cons_succ]
      refine K_step (by kernel_rfl) (by kernel_rfl) rfl (fun K hK => ?_)
      go_simp
      rw [HWX.out]
      refine (KS.out _ ((HB1.out.below HG5.out).below hHeld2.2) ((HB2.out.below HG5.out).below hHeld2.2) ((HB3.out.below HG5.out).below hHeld2.2)).mono ?_
      rintro r w10 h
      obtain ⟨X1, _, k1, X2, _, k2, X3, _, k3, rfl, rfl, g1, i1, rfl, g2, i2, rfl, g3, i3, f1, f2, f3, hbW⟩ := h
      have hkW := Kp.next hHeld2 hbW
      refine hK.out _ _ ?_
      clear hK K
      try simp only [Act.put, List.setIfInBounds_toArray, List.set_cons_zero, List.set_cons_succ]
      have hT9 : m5.heap.size < w10.heap.size := by have := hbW.size; simp at this; omega
      have CT : Cl m5.heap.size w10 [.slice none 0 0, .slice none 0 0, .int .i64 0, .int .i64 0, .slice none 0 0] := ((Cl.new (w := m5) rfl [.slice none 0 0, .slice none 0 0, .int .i64 0, .int .i64 0, .slice none 0 0] 25).below ((Below.refl _ _).drew)).below hbW
      have HCT := Lib.hid CT
      have t0 := CT.c 0 rfl
      have t1 := CT.c 1 rfl
      have t2 := CT.c 2 rfl
      have t3 := CT.c 3 rfl
      have t4 := CT.c 4 rfl
      have q0 := CT.f 0 rfl
      have q1 := CT.f 1 rfl
      have q2 := CT.f 2 rfl
      have q3 := CT.f 3 rfl
      have q4 := CT.f 4 rfl
      have zt := CT.1
      clear CT
      refine wpAny_take (i := 6) (v := ?_) rfl (by kernel_rfl) (by kernel_rfl) (by kernel_rfl) (fun _ _ _ h => h) (Or.inl ⟨by kernel_rfl, ?_⟩) ?_
      rotate_left 1
      · intro W8
        go_simp
        all_goals with_reducible rfl
      try simp only [Act.put, List.setIfInBounds_toArray, List.set_cons_zero, List.set_cons_succ]
      refine wpAny_take (i := 7) (v := ?_) rfl (by kernel_rfl) (by kernel_rfl) (by kernel_rfl) (fun _ _ _ h => h) (Or.inl ⟨by kernel_rfl, ?_⟩) ?_
      rotate_left 1
      · intro W8
        go_simp
        all_goals with_reducible rfl
      try simp only [Act.put, List.setIfInBounds_toArray, List.set_cons_zero, List.set_cons_succ]
      refine wpAny_take (i := 8) (v := ?_) rfl (by kernel_rfl) (by kernel_rfl) (by kernel_rfl) (fun _ _ _ h => h) (Or.inl ⟨by kernel_rfl, ?_⟩) ?_
      rotate_left 1
      · intro W8
        go_simp
        all_goals with_reducible rfl
      try simp only [Act.put, List.setIfInBounds_toArray, List.set_cons_zero, List.set_cons_succ]
      refine wpAny_ready (rs := [10]) (by kernel_rfl) (by simp) (AllReady.cons rfl (fun K hK => ?_) AllReady.nil)
      go_simp
      refine hK _ _ ?_
      clear hK K
      try simp only [Act.put, List.setIfInBounds_toArray, List.set_cons_zero, List.set_cons_succ]
      refine wpAny_ready (rs := [11]) (by kernel_rfl) (by simp) (AllReady.cons rfl (fun K hK => ?_) AllReady.nil)
      go_simp
      refine hK _ _ ?_
      clear hK K
      try simp only [Act.put, List.setIfInBounds_toArray, List.set_cons_zero, List.set_cons_succ]
      refine wpAny_done (by kernel_rfl) ?_ _
      have HKW := Lib.hid hkW.2
      have HI1 := Lib.hid i1
      have HI2 := Lib.hid i2
      have HI3 := Lib.hid i3
      have hF1 : Fr (m5.heap.size + 1) X1 := fun b o e => by have := f1 b o e; simpa using this
      have hF2 : Fr (m5.heap.size + 1) X2 := fun b o e => by have := f2 b o e; simpa using this
      have hF3 : Fr (m5.heap.size + 1) X3 := fun b o e => by have := f3 b o e; simpa using this
      clear i1 i2 i3 f1 f2 f3 hkW hbW hHeld hHeld2 p0 p1 p2 p3 p4 t0 t1 t2 t3 t4 q0 q1 q2 q3 q4 zt
      go_wp2_with fail
      go_meet
      case rel => 
        exact ⟨m5.heap.size, X1, k1, X2, k2, X3, k3, rfl, rfl, Nat.le_refl _, g1, g2, g3, HCT.out.set5 _ _ _ _ _, ⟨HI1.out.fr5 hF1 (Nat.lt_succ_self _) _ _ _ _ _, HI2.out.fr5 hF2 (Nat.lt_succ_self _) _ _ _ _ _, HI3.out.fr5 hF3 (Nat.lt_succ_self _) _ _ _ _ _⟩, ⟨fr_le hF1 (Nat.le_succ _), fr_le hF2 (Nat.le_succ _), fr_le hF3 (Nat.le_succ _)⟩, below_set5 HKW.out (Nat.le_refl _) _ _ _ _ _⟩
  case rest =>
    obtain ⟨T, X1, k1, X2, k2, X3, k3, rfl, rfl, hT, g1, g2, g3, hC, hI, hF, hB⟩ := hcut
    have HPN := Lib.hid (HP5.out.below hB)
    have HMN := Lib.hid (HM5.out.below hB)
    have HQN := Lib.hid (HQ5.out.below hB)
    have HGN := Lib.hid (chain HG5.out hB)
    have HCN := Lib.hid hC
    have HIN := Lib.hid hI
    have HFN := Lib.hid (show Fr (w.heap.size + 3) X1 ∧ Fr (w.heap.size + 3) X2 ∧ Fr (w.heap.size + 3) X3 from ⟨fr_le hF.1 hm3, fr_le hF.2.1 hm3, fr_le hF.2.2 hm3⟩)
    clear hC hI hF hB HP5 HQ5 HM5 HG5 HB1 HB2 HB3 p0 p1 p2 p3 p4
    go_upto_region 21 with fail
    obtain ⟨Q, hQ⟩ : ∃ Q, Q = w.heap.size + 1 + 1 := ⟨_, rfl⟩
    rw [← hQ] at HQN
    rw [← hQ]
    have hQw : w.heap.size ≤ Q := by omega
    have hQ3 : Q < w.heap.size + 3 := by omega
    have nTQ : T ≠ Q := by omega
    have nMQ : w.heap.size + 1 ≠ Q := by omega
    clear hQ hT hm3
    have t0 := HCN.out.c 0 rfl
    have t1 := HCN.out.c 1 rfl
    have t2 := HCN.out.c 2 rfl
    have t3 := HCN.out.c 3 rfl
    have t4 := HCN.out.c 4 rfl
    have pm := HMN.out.c 0 rfl
    have q0 := HQN.out.c 0 rfl
    have q1 := HQN.out.c 1 rfl
    have q2 := HQN.out.c 2 rfl
    have q3 := HQN.out.c 3 rfl
    have q4 := HQN.out.c 4 rfl
    have f0 := HQN.out.f 0 rfl
    have f1 := HQN.out.f 1 rfl
    have f2 := HQN.out.f 2 rfl
    have f3 := HQN.out.f 3 rfl
    have f4 := HQN.out.f 4 rfl
    have zt := HCN.out.1
    have zm := HMN.out.1
    have zq := HQN.out.1
    refine region_K (fun W' => (∀ b o, b < wc.heap.size → b ≠ Q → W'.cell? ⟨b, o, none⟩ = wc.cell? ⟨b, o, none⟩) ∧ True) 3 (by kernel_rfl) (⟨fun b o _ _ => rfl, trivial⟩) (fun hHeld => ?_)
    refine K_take (i := 0) (v := ?_) rfl (by kernel_rfl) (by kernel_rfl) (by kernel_rfl) (by kernel_rfl) (by kernel_rfl) (fun _ _ _ h => h) (Or.inl ⟨by kernel_rfl, ?_⟩) hHeld ?_
    rotate_left 1
    · intro W8 hSw
      (try dsimp only at hSw)
      go_simp
      all_goals with_reducible rfl
    try simp only [Act.put, List.setIfInBounds_toArray, List.set_cons_zero, List.set_cons_succ]
    refine K_take (i := 1) (v := ?_) rfl (by kernel_rfl) (by kernel_rfl) (by kernel_rfl) (by kernel_rfl) (by kernel_rfl) (fun _ _ _ h => h) (Or.inl ⟨by kernel_rfl, ?_⟩) hHeld ?_
    rotate_left 1
    · intro W8 hSw
      (try dsimp only at hSw)
      go_simp
      all_goals with_reducible rfl
    try simp only [Act.put, List.setIfInBounds_toArray, List.set_cons_zero, List.set_cons_succ]
    refine K_step' (i := 2) (by kernel_rfl) rfl (fun K hK => ?_)
    go_simp
    refine hK.out _ _ ⟨fun b o hb hne => cell_far5d (Ne.symm hne) _ _ _ _ _, trivial⟩ (fun hH3 => ?_)
    clear hK K
    try simp only [Act.put, List.setIfInBounds_toArray, List.set_cons_zero, List.set_cons_succ]
    refine K_step (by kernel_rfl) (by kernel_rfl) rfl (fun K hK => ?_)
    go_simp
    refine hK.out _ _ ?_
    clear hK K
    try simp only [Act.put, List.setIfInBounds_toArray, List.set_cons_zero, List.set_cons_succ]
    refine wpAny_ready (rs := [4]) (by kernel_rfl) (by simp) (AllReady.cons rfl (fun K hK => ?_) AllReady.nil)
    go_simp
    refine hK _ _ ?_
    clear hK K
    try simp only [Act.put, List.setIfInBounds_toArray, List.set_cons_zero, List.set_cons_succ]
    refine wpAny_ready (rs := [5]) (by kernel_rfl) (by simp) (AllReady.cons rfl (fun K hK => ?_) AllReady.nil)
    go_simp
    refine hK _ _ ?_
    clear hK K
    try simp only [Act.put, List.setIfInBounds_toArray, List.set_cons_zero, List.set_cons_succ]
    refine wpAny_done (by kernel_rfl) ?_ _
    clear t0 t1 t2 t3 t4 pm zt zm HCN HMN HPN
    go_wp2_with fail
    refine bodyPost_ret (v := .tuple #[.agg #[.slice X1 Rq.length k1, .slice X2 Wq.length k2, .int .i64 Acq, .int .i64 Peq, .slice X3 Chq.length k3], .slice A4 mm c4, .slice none 0 0, .int .i64 0]) (by simp [results, Try.results41, go_sem, q0, f0, q1, f1, q2, f2, q3, f3, q4, f4, zq] <;> first | rfl | ((repeat' apply And.intro) <;> rfl)) rfl ⟨X1, k1, X2, k2, X3, k3, rfl, g1, g2, g3, ?_, ?_, ?_, ⟨fr_le HFN.out.1 (by omega), fr_le HFN.out.2.1 (by omega), fr_le HFN.out.2.2 (by omega)⟩, (below_set5 HGN.out hQw _ _ _ _ _).drew⟩
    · exact (HIN.out.1.fr5 HFN.out.1 hQ3 _ _ _ _ _).below ((Below.refl _ _).drew)
    · exact (HIN.out.2.1.fr5 HFN.out.2.1 hQ3 _ _ _ _ _).below ((Below.refl _ _).drew)
    · exact (HIN.out.2.2.fr5 HFN.out.2.2 hQ3 _ _ _ _ _).below ((Below.refl _ _).drew)
end Go.Proofs.Ytamajedopofcoaa
