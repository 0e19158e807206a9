/-
  The contract of the reference's command for a write and a selection. No condition but the slices' shape.
-/
import Derived.Test.YtamajedopofcoaaZR4A
import Derived.Test.YtamajedopofcoaaZCmW
set_option linter.unusedVariables false
set_option linter.unusedSimpArgs false
namespace Go.Proofs.Ytamajedopofcoaa
open Go.RowKit
set_option maxRecDepth 100000 in
set_option maxHeartbeats 16000000 in
theorem r42_write (A : Option Addr) (n c : Nat) (A2 : Option Addr) (n2 c2 : Nat) (Ac Pe : Int) (A3 : Option Addr) (m c3 : Nat) (R W : List Int) (ch : List (Int × Int)) (A4 : Option Addr) (mm c4 : Nat) (l : List MV) (b o c5 : Nat) (x y v eq : Int) (l8 : List Int) (q : PG) (w : World) (hl : R.length = n) (hb : Ik .i64 w A R) (hc : n ≤ c) (hl2 : W.length = n2) (hb2 : Ik .i64 w A2 W) (hc2 : n2 ≤ c2) (hl3 : ch.length = m) (hb3 : Ik .i64 w A3 (flat ch)) (hc3 : m ≤ c3) (hs : n ≤ 5000) (hs2 : n2 ≤ 5000) (hs3 : m ≤ 5000) (hlm : l.length = mm) (hcv : Cv w A4 (flatM l)) (hmo : Mo [] w l) (hcm : mm ≤ c4) (hv : vP R W Ac Pe ch = true) (hm8 : (decide (mm ≤ 8) && !l.any bV) = true) (K56 : ∀ w1, Below w.heap.size w w1 → Calls Try.prog 56 #[.slice (some ⟨b, o, none⟩) 11 c5] w1 fun r w' => r = .returned (.bool true) ∧ w1 = w') (h0 : w.cell? ⟨b, o, none⟩ = some (.int .u8 2)) (hbl : b < w.heap.size) (hc5 : 11 ≤ c5) (h1 : w.cell? ⟨b, o + 1, none⟩ = some (.int .u8 x)) (h2 : w.cell? ⟨b, o + 1 + 1, none⟩ = some (.int .u8 y)) (x0 : 0 ≤ x) (x1 : x ≤ 255) (y0 : 0 ≤ y) (y1 : y ≤ 255) (h8 : Ik .u8 w (some ⟨b, o + 3, none⟩) l8) (hl8 : l8.length = 8) (h8b : ∀ x ∈ l8, 0 ≤ x ∧ x ≤ 255) (hvv : v = IntKind.i64.wrap (numL l8)) (hr : wriM ⟨R, W, Ac, Pe, ch⟩ (x * 256 + y) v = (q, eq)) : Calls Try.prog 42 #[.agg #[.slice A n c, .slice A2 n2 c2, .int .i64 Ac, .int .i64 Pe, .slice A3 m c3], .slice A4 mm c4, .slice (some ⟨b, o, none⟩) 11 c5] w (fun r w' => ∃ X1 k1 X2 k2 X3 k3, r = .returned (.tuple #[.agg #[.slice X1 q.R.length k1, .slice X2 q.W.length k2, .int .i64 q.Ac, .int .i64 q.Pe, .slice X3 q.Ch.length k3], .slice A4 mm c4, .slice none 0 0, .int .i64 eq]) ∧ q.R.length ≤ k1 ∧ q.W.length ≤ k2 ∧ q.Ch.length ≤ k3 ∧ Ik .i64 w' X1 q.R ∧ Ik .i64 w' X2 q.W ∧ Ik .i64 w' X3 (flat q.Ch) ∧ (Fr w.heap.size X1 ∧ Fr w.heap.size X2 ∧ Fr w.heap.size X3) ∧ Below w.heap.size w w') := by
  have KW := fun w h h2 h3 => wri16u A n c A2 n2 c2 Ac Pe A3 m c3 R W ch (x * 256 + y) v w hl h hc hl2 h2 hc2 hl3 h3 hc3 hs hs2 hs3
  rw [hr] at KW
  obtain ⟨Rq, Wq, Acq, Peq, Chq⟩ := q
  simp only at KW
  replace KW := Lib.hid KW
  have KI := fun w h h' => rindex57 b (o + 1) 10 (c5 - 1) x y w (by omega) (by omega) h h' x0 x1 y0 y1
  replace KI := Lib.hid KI
  have KN := fun w h => rnumber59 b (o + 3) 8 (c5 - 3) l8 w (Nat.le_refl _) (by omega) hl8 h h8b
  rw [← hvv] at KN
  replace KN := Lib.hid KN
  have HI80 := Lib.hid h8
  have KV := fun w h h2 h3 => rvalid12 A n c A2 n2 c2 Ac Pe A3 m c3 R W ch w hl h hc hl2 h2 hc2 hl3 h3 hc3 hs hs2 hs3
  rw [hv] at KV
  replace KV := Lib.hid KV
  have KM := fun w h h' => rmeas55 A4 mm c4 l w hlm h h' hcm
  rw [hm8] at KM
  replace KM := Lib.hid KM
  have HCV := Lib.hid hcv
  have HMO := Lib.hid hmo
  have HB1 := Lib.hid hb
  have HB2 := Lib.hid hb2
  have HB3 := Lib.hid hb3
  have HP0 := Lib.hid ((Cl.new (w := w) rfl [.slice A n c, .slice A2 n2 c2, .int .i64 Ac, .int .i64 Pe, .slice A3 m c3] 25).below ((Below.refl _ _).alloc (Nat.le_refl _) (.cells #[.slice none 0 0, .slice none 0 0, .int .i64 0, .int .i64 0, .slice none 0 0] 25)))
  have HQ0 := Lib.hid (Cl.new (P := w.heap.size + 1) (w := w.alloc (.cells #[.slice A n c, .slice A2 n2 c2, .int .i64 Ac, .int .i64 Pe, .slice A3 m c3] 25)) (by simp) [.slice none 0 0, .slice none 0 0, .int .i64 0, .int .i64 0, .slice none 0 0] 25)
  have HG0 := Lib.hid (show Below w.heap.size w ((w.alloc (.cells #[.slice A n c, .slice A2 n2 c2, .int .i64 Ac, .int .i64 Pe, .slice A3 m c3] 25)).alloc (.cells #[.slice none 0 0, .slice none 0 0, .int .i64 0, .int .i64 0, .slice none 0 0] 25)) by go_grown)
  replace K56 := Lib.hid K56
  clear hl hl2 hl3 hb hb2 hb3 hlm hcv hmo hm8 hr hl8 h8 h8b hvv
  go_enter Try.func42, Try.ntmps42
  have p0 := HP0.out.c 0 rfl
  have p1 := HP0.out.c 1 rfl
  have p2 := HP0.out.c 2 rfl
  have p3 := HP0.out.c 3 rfl
  have p4 := HP0.out.c 4 rfl
  have zp := HP0.out.1
  go_wp2_with fail
  refine (KV.out _ (HB1.out.below HG0.out) (HB2.out.below HG0.out) (HB3.out.below HG0.out)).mono ?_
  rintro r w1 ⟨rfl, hbw1⟩
  have HP1 := Lib.hid (HP0.out.below hbw1)
  have HQ1 := Lib.hid (HQ0.out.below hbw1)
  have HG1 := Lib.hid (chain HG0.out hbw1)
  clear hbw1 HP0 HQ0 HG0
  clear p0 p1 p2 p3 p4 zp KV
  go_wp2_with fail
  refine (KM.out _ (HCV.out.below HG1.out) (HMO.out.below HG1.out)).mono ?_
  rintro r m5 ⟨rfl, hbm5⟩
  have HP5 := Lib.hid (HP1.out.below hbm5)
  have HQ5 := Lib.hid (HQ1.out.below hbm5)
  have HG5 := Lib.hid (chain HG1.out hbm5)
  clear hbm5 HP1 HQ1 HG1
  clear KM
  go_wp2_with fail
  refine (K56.out _ HG5.out).mono ?_
  rintro r w3 ⟨rfl, rfl⟩
  have hb5 : b < m5.heap.size := by have := HG5.out.size; omega
  have hPm : w.heap.size < m5.heap.size := HP5.out.1
  have hm2 : w.heap.size + 2 ≤ m5.heap.size := HQ5.out.1
  have s1 : m5.cell? ⟨b, o, none⟩ = some (.int .u8 2) := ((bcell HG5.out).1 b _ hbl).trans h0
  have s2 : m5.cell? ⟨b, o + 1, none⟩ = some (.int .u8 x) := ((bcell HG5.out).1 b _ hbl).trans h1
  have s3 : m5.cell? ⟨b, o + 1 + 1, none⟩ = some (.int .u8 y) := ((bcell HG5.out).1 b _ hbl).trans h2
  clear h0 h1 h2
  have HI8 := Lib.hid (HI80.out.below HG5.out)
  clear HI80
  go_upto_region 10 with fail
  have f1' : (1 : Int) ≤ (11 : Int) := by decide
  have f2' : (3 : Int) ≤ (11 : Int) := by decide
  have f3' : ¬ (c5 = 1) := by omega
  have f4' : ¬ (c5 = 3) := by omega
  have p0 := HP5.out.c 0 rfl
  have p1 := HP5.out.c 1 rfl
  have p2 := HP5.out.c 2 rfl
  have p3 := HP5.out.c 3 rfl
  have p4 := HP5.out.c 4 rfl
  go_cut [12, 13] from 55 to 65 (fun v12 v13 wc => ∃ (T : Nat) (X1 : Option Addr) (k1 : Nat) (X2 : Option Addr) (k2 : Nat) (X3 : Option Addr) (k3 : Nat), v12 = .pointer (some ⟨T, 0, none⟩) ∧ v13 = .int .i64 eq ∧ m5.heap.size ≤ T ∧ Rq.length ≤ k1 ∧ Wq.length ≤ k2 ∧ Chq.length ≤ k3 ∧ Cl T wc [.slice X1 Rq.length k1, .slice X2 Wq.length k2, .int .i64 Acq, .int .i64 Peq, .slice X3 Chq.length k3] ∧ (Ik .i64 wc X1 Rq ∧ Ik .i64 wc X2 Wq ∧ Ik .i64 wc X3 (flat Chq)) ∧ (Fr m5.heap.size X1 ∧ Fr m5.heap.size X2 ∧ Fr m5.heap.size X3) ∧ Below m5.heap.size m5 wc)
  case first =>
    refine region_K (fun W' => (∀ b o, b < m5.heap.size → W'.cell? ⟨b, o, none⟩ = m5.cell? ⟨b, o, none⟩) ∧ Below m5.heap.size m5 W') 7 (by kernel_rfl) (Kp.mk (Below.refl _ _).drew) (fun hHeld => ?_)
    refine K_take' (i := 1) (v := ?_) rfl (by kernel_rfl) (by kernel_rfl) (by kernel_rfl) (by kernel_rfl) (fun _ _ _ h => h) (Or.inl ⟨by kernel_rfl, ?_⟩) hHeld ?_
    rotate_left 1
    · intro W8 hSw
      clear hSw
      go_simp
      all_goals with_reducible rfl
    try simp only [Act.put, List.setIfInBounds_toArray, List.set_cons_zero, List.set_cons_succ]
    refine K_take' (i := 4) (v := ?_) rfl (by kernel_rfl) (by kernel_rfl) (by kernel_rfl) (by kernel_rfl) (fun _ _ _ h => h) (Or.inl ⟨by kernel_rfl, ?_⟩) hHeld ?_
    rotate_left 1
    · intro W8 hSw
      clear hSw
      go_simp
      all_goals with_reducible rfl
    try simp only [Act.put, List.setIfInBounds_toArray, List.set_cons_zero, List.set_cons_succ]
    refine K_take (i := 0) (v := ?_) rfl (by kernel_rfl) (by kernel_rfl) (by kernel_rfl) (by kernel_rfl) (by kernel_rfl) (fun _ _ _ h => h) (Or.inl ⟨by kernel_rfl, ?_⟩) hHeld ?_
    rotate_left 1
    · intro W8 hSw
      (try dsimp only at hSw)
      go_simp
      all_goals with_reducible rfl
    try simp only [Act.put, List.setIfInBounds_toArray, List.set_cons_zero, List.set_cons_succ]
    refine K_take' (i := 2) (v := ?_) rfl (by kernel_rfl) (by kernel_rfl) (by kernel_rfl) (by kernel_rfl) (fun _ _ _ h => h) (Or.inl ⟨by kernel_rfl, ?_⟩) hHeld ?_
    rotate_left 1
    · intro W8 hSw
      clear hSw
      go_simp
      all_goals with_reducible rfl
    try simp only [Act.put, List.setIfInBounds_toArray, List.set_cons_zero, List.set_cons_succ]
    refine K_take' (i := 5) (v := ?_) rfl (by kernel_rfl) (by kernel_rfl) (by kernel_rfl) (by kernel_rfl) (fun _ _ _ h => h) (Or.inl ⟨by kernel_rfl, ?_⟩) hHeld ?_
    rotate_left 1
    · intro W8 hSw
      clear hSw
      go_simp
      all_goals with_reducible rfl
    try simp only [Act.put, List.setIfInBounds_toArray, List.set_cons_zero, List.set_cons_succ]
    refine K_both (i := 3) (j := 11) (by kernel_rfl) rfl rfl (fun K hK => ?_) (fun K hK => ?_)
    · go_simp
      refine (KI.out _ ((hHeld.1 b _ hb5).trans s2) ((hHeld.1 b _ hb5).trans s3)).mono ?_
      rintro r w9 ⟨rfl, hbw9⟩
      have hkw9 := Kp.next hHeld hbw9
      refine hK.out _ _ hkw9 (fun hHn => ?_)
      clear hK K hHn
      try simp only [Act.put, List.setIfInBounds_toArray, List.set_cons_zero, List.set_cons_succ]
      refine K_both (i := 6) (j := 11) (by kernel_rfl) rfl rfl (fun K hK => ?_) (fun K hK => ?_)
      · go_simp
        refine (KN.out _ (HI8.out.below hkw9.2)).mono ?_
        rintro r w10 ⟨rfl, hbw10⟩
        have hkw10 := Kp.next hkw9 hbw10
        refine hK.out _ _ hkw10 (fun hHn => ?_)
        clear hK K hHn
        try simp only [Act.put, List.setIfInBounds_toArray, List.set_cons_zero, List.set_cons_succ]
        refine K_two (j := 11) (by kernel_rfl) (by kernel_rfl) rfl rfl (fun K hK => ?_) (fun K hK => ?_)
        · have hcw := hkw10.2.size
          go_simp
          refine (KW.out _ ((HB1.out.below HG5.out).below hkw10.2) ((HB2.out.below HG5.out).below hkw10.2) ((HB3.out.below HG5.out).below hkw10.2)).mono ?_
          rintro r w11 h
          obtain ⟨X1, _, k1, X2, _, k2, X3, _, k3, rfl, rfl, g1, i1, rfl, g2, i2, rfl, g3, i3, f1, f2, f3, hbW⟩ := h
          have hbw11 := hbW
          have hkw11 := Kp.next hkw10 hbw11
          clear hbW
          refine hK.out _ _ ?_
          clear hK K
          try simp only [Act.put, List.setIfInBounds_toArray, List.set_cons_zero, List.set_cons_succ]
          refine wpAny_take (i := 8) (v := ?_) rfl (by kernel_rfl) (by kernel_rfl) (by kernel_rfl) (fun _ _ _ h => h) (Or.inl ⟨by kernel_rfl, ?_⟩) ?_
          rotate_left 1
          · intro W8
            go_simp
            all_goals with_reducible rfl
          try simp only [Act.put, List.setIfInBounds_toArray, List.set_cons_zero, List.set_cons_succ]
          refine wpAny_take (i := 9) (v := ?_) rfl (by kernel_rfl) (by kernel_rfl) (by kernel_rfl) (fun _ _ _ h => h) (Or.inl ⟨by kernel_rfl, ?_⟩) ?_
          rotate_left 1
          · intro W8
            go_simp
            all_goals with_reducible rfl
          try simp only [Act.put, List.setIfInBounds_toArray, List.set_cons_zero, List.set_cons_succ]
          refine wpAny_take (i := 10) (v := ?_) rfl (by kernel_rfl) (by kernel_rfl) (by kernel_rfl) (fun _ _ _ h => h) (Or.inl ⟨by kernel_rfl, ?_⟩) ?_
          rotate_left 1
          · intro W8
            go_simp
            all_goals with_reducible rfl
          try simp only [Act.put, List.setIfInBounds_toArray, List.set_cons_zero, List.set_cons_succ]
          refine wpAny_ready (rs := [11]) (by kernel_rfl) (by simp) (AllReady.cons rfl (fun K hK => ?_) AllReady.nil)
          go_simp
          refine hK _ _ ?_
          clear hK K
          try simp only [Act.put, List.setIfInBounds_toArray, List.set_cons_zero, List.set_cons_succ]
          refine wpAny_ready (rs := [12]) (by kernel_rfl) (by simp) (AllReady.cons rfl (fun K hK => ?_) AllReady.nil)
          go_simp
          refine hK _ _ ?_
          clear hK K
          try simp only [Act.put, List.setIfInBounds_toArray, List.set_cons_zero, List.set_cons_succ]
          refine wpAny_ready (rs := [13]) (by kernel_rfl) (by simp) (AllReady.cons rfl (fun K hK => ?_) AllReady.nil)
          go_simp
          refine hK _ _ ?_
          clear hK K
          try simp only [Act.put, List.setIfInBounds_toArray, List.set_cons_zero, List.set_cons_succ]
          refine wpAny_done (by kernel_rfl) ?_ _
          have hz9 := hkw11.2.size
          have HKW := Lib.hid hkw11.2
          have HI1 := Lib.hid i1
          have HI2 := Lib.hid i2
          have HI3 := Lib.hid i3
          have hF1 : Fr m5.heap.size X1 := fr_le f1 hcw
          have hF2 : Fr m5.heap.size X2 := fr_le f2 hcw
          have hF3 : Fr m5.heap.size X3 := fr_le f3 hcw
          clear i1 i2 i3 f1 f2 f3 hcw hHeld hkw9 hbw9 hkw10 hbw10 hkw11 hbw11
          go_wp2_with fail
          go_meet
          case rel => 
            have al : Below w11.heap.size w11 (w11.alloc (.cells #[.slice X1 Rq.length k1, .slice X2 Wq.length k2, .int .i64 Acq, .int .i64 Peq, .slice X3 Chq.length k3] 25)) := (Below.refl _ _).alloc (Nat.le_refl _) _
            exact ⟨w11.heap.size, X1, k1, X2, k2, X3, k3, rfl, rfl, hz9, g1, g2, g3, Cl.new rfl [.slice X1 Rq.length k1, .slice X2 Wq.length k2, .int .i64 Acq, .int .i64 Peq, .slice X3 Chq.length k3] 25, ⟨HI1.out.below al, HI2.out.below al, HI3.out.below al⟩, ⟨hF1, hF2, hF3⟩, HKW.out.alloc hz9 _⟩
        · have hTm := hkw10.2.size
          go_simp
          refine hK.out _ _ (Kp.next hkw10 ((Below.refl _ _).alloc (Nat.le_refl _) (.cells #[.slice none 0 0, .slice none 0 0, .int .i64 0, .int .i64 0, .slice none 0 0] 25))) (fun hkA => ?_)
          clear hK K
          try simp only [Act.put, List.setIfInBounds_toArray, List.set_cons_zero, List.set_cons_succ]
          refine K_step (by kernel_rfl) (by kernel_rfl) rfl (fun K hK => ?_)
          have hcw : w10.heap.size + 1 ≤ (w10.alloc (.cells #[.slice none 0 0, .slice none 0 0, .int .i64 0, .int .i64 0, .slice none 0 0] 25)).heap.size := by simp
          go_simp
          refine (KW.out _ ((HB1.out.below HG5.out).below hkA.2) ((HB2.out.below HG5.out).below hkA.2) ((HB3.out.below HG5.out).below hkA.2)).mono ?_
          rintro r w11 h
          obtain ⟨X1, _, k1, X2, _, k2, X3, _, k3, rfl, rfl, g1, i1, rfl, g2, i2, rfl, g3, i3, f1, f2, f3, hbW⟩ := h
          have hbw11 := hbW
          have hkw11 := Kp.next hkA hbw11
          clear hbW
          have CT := (Cl.new (w := w10) rfl [.slice none 0 0, .slice none 0 0, .int .i64 0, .int .i64 0, .slice none 0 0] 25).below hbw11
          refine hK.out _ _ ?_
          clear hK K
          try simp only [Act.put, List.setIfInBounds_toArray, List.set_cons_zero, List.set_cons_succ]
          have HCT := Lib.hid CT
          have t0 := CT.c 0 rfl
          have t1 := CT.c 1 rfl
          have t2 := CT.c 2 rfl
          have t3 := CT.c 3 rfl
          have t4 := CT.c 4 rfl
          have q0 := CT.f 0 rfl
          have q1 := CT.f 1 rfl
          have q2 := CT.f 2 rfl
          have q3 := CT.f 3 rfl
          have q4 := CT.f 4 rfl
          have zt := CT.1
          clear CT
          refine wpAny_take (i := 8) (v := ?_) rfl (by kernel_rfl) (by kernel_rfl) (by kernel_rfl) (fun _ _ _ h => h) (Or.inl ⟨by kernel_rfl, ?_⟩) ?_
          rotate_left 1
          · intro W8
            go_simp
            all_goals with_reducible rfl
          try simp only [Act.put, List.setIfInBounds_toArray, List.set_cons_zero, List.set_cons_succ]
          refine wpAny_take (i := 9) (v := ?_) rfl (by kernel_rfl) (by kernel_rfl) (by kernel_rfl) (fun _ _ _ h => h) (Or.inl ⟨by kernel_rfl, ?_⟩) ?_
          rotate_left 1
          · intro W8
            go_simp
            all_goals with_reducible rfl
          try simp only [Act.put, List.setIfInBounds_toArray, List.set_cons_zero, List.set_cons_succ]
          refine wpAny_take (i := 10) (v := ?_) rfl (by kernel_rfl) (by kernel_rfl) (by kernel_rfl) (fun _ _ _ h => h) (Or.inl ⟨by kernel_rfl, ?_⟩) ?_
          rotate_left 1
          · intro W8
            go_simp
            all_goals with_reducible rfl
          try simp only [Act.put, List.setIfInBounds_toArray, List.set_cons_zero, List.set_cons_succ]
          refine wpAny_ready (rs := [12]) (by kernel_rfl) (by simp) (AllReady.cons rfl (fun K hK => ?_) AllReady.nil)
          go_simp
          refine hK _ _ ?_
          clear hK K
          try simp only [Act.put, List.setIfInBounds_toArray, List.set_cons_zero, List.set_cons_succ]
          refine wpAny_ready (rs := [13]) (by kernel_rfl) (by simp) (AllReady.cons rfl (fun K hK => ?_) AllReady.nil)
          go_simp
          refine hK _ _ ?_
          clear hK K
          try simp only [Act.put, List.setIfInBounds_toArray, List.set_cons_zero, List.set_cons_succ]
          refine wpAny_done (by kernel_rfl) ?_ _
          have HKW := Lib.hid hkw11.2
          have HI1 := Lib.hid i1
          have HI2 := Lib.hid i2
          have HI3 := Lib.hid i3
          have hF1 : Fr (w10.heap.size + 1) X1 := fr_le f1 hcw
          have hF2 : Fr (w10.heap.size + 1) X2 := fr_le f2 hcw
          have hF3 : Fr (w10.heap.size + 1) X3 := fr_le f3 hcw
          clear i1 i2 i3 f1 f2 f3 t0 t1 t2 t3 t4 q0 q1 q2 q3 q4 zt hcw hHeld hkw9 hbw9 hkw10 hbw10 hkA hkw11 hbw11
          go_wp2_with fail
          go_meet
          case rel => 
            exact ⟨w10.heap.size, X1, k1, X2, k2, X3, k3, rfl, rfl, hTm, g1, g2, g3, HCT.out.set5 _ _ _ _ _, ⟨HI1.out.fr5 hF1 (Nat.lt_succ_self _) _ _ _ _ _, HI2.out.fr5 hF2 (Nat.lt_succ_self _) _ _ _ _ _, HI3.out.fr5 hF3 (Nat.lt_succ_self _) _ _ _ _ _⟩, ⟨fr_le hF1 (by omega), fr_le hF2 (by omega), fr_le hF3 (by omega)⟩, below_set5 HKW.out hTm _ _ _ _ _⟩
      · have hTm := hkw9.2.size
        go_simp
        refine hK.out _ _ (Kp.next hkw9 ((Below.refl _ _).alloc (Nat.le_refl _) (.cells #[.slice none 0 0, .slice none 0 0, .int .i64 0, .int .i64 0, .slice none 0 0] 25))) (fun hkA => ?_)
        clear hK K
        try simp only [Act.put, List.setIfInBounds_toArray, List.set_cons_zero, List.set_cons_succ]
        refine K_step' (i := 6) (by kernel_rfl) rfl (fun K hK => ?_)
        go_simp
        refine (KN.out _ (HI8.out.below hkA.2)).mono ?_
        rintro r w10 ⟨rfl, hbw10⟩
        have hkw10 := Kp.next hkA hbw10
        have CT := (Cl.new (w := w9) rfl [.slice none 0 0, .slice none 0 0, .int .i64 0, .int .i64 0, .slice none 0 0] 25).below hbw10
        refine hK.out _ _ hkw10 (fun hHn => ?_)
        clear hK K hHn
        try simp only [Act.put, List.setIfInBounds_toArray, List.set_cons_zero, List.set_cons_succ]
        refine K_step (by kernel_rfl) (by kernel_rfl) rfl (fun K hK => ?_)
        have hcw := CT.1
        go_simp
        refine (KW.out _ ((HB1.out.below HG5.out).below hkw10.2) ((HB2.out.below HG5.out).below hkw10.2) ((HB3.out.below HG5.out).below hkw10.2)).mono ?_
        rintro r w11 h
        obtain ⟨X1, _, k1, X2, _, k2, X3, _, k3, rfl, rfl, g1, i1, rfl, g2, i2, rfl, g3, i3, f1, f2, f3, hbW⟩ := h
        have hbw11 := hbW
        have hkw11 := Kp.next hkw10 hbw11
        clear hbW
        replace CT := CT.below hbw11
        refine hK.out _ _ ?_
        clear hK K
        try simp only [Act.put, List.setIfInBounds_toArray, List.set_cons_zero, List.set_cons_succ]
        have HCT := Lib.hid CT
        have t0 := CT.c 0 rfl
        have t1 := CT.c 1 rfl
        have t2 := CT.c 2 rfl
        have t3 := CT.c 3 rfl
        have t4 := CT.c 4 rfl
        have q0 := CT.f 0 rfl
        have q1 := CT.f 1 rfl
        have q2 := CT.f 2 rfl
        have q3 := CT.f 3 rfl
        have q4 := CT.f 4 rfl
        have zt := CT.1
        clear CT
        refine wpAny_take (i := 8) (v := ?_) rfl (by kernel_rfl) (by kernel_rfl) (by kernel_rfl) (fun _ _ _ h => h) (Or.inl ⟨by kernel_rfl, ?_⟩) ?_
        rotate_left 1
        · intro W8
          go_simp
          all_goals with_reducible rfl
        try simp only [Act.put, List.setIfInBounds_toArray, List.set_cons_zero, List.set_cons_succ]
        refine wpAny_take (i := 9) (v := ?_) rfl (by kernel_rfl) (by kernel_rfl) (by kernel_rfl) (fun _ _ _ h => h) (Or.inl ⟨by kernel_rfl, ?_⟩) ?_
        rotate_left 1
        · intro W8
          go_simp
          all_goals with_reducible rfl
        try simp only [Act.put, List.setIfInBounds_toArray, List.set_cons_zero, List.set_cons_succ]
        refine wpAny_take (i := 10) (v := ?_) rfl (by kernel_rfl) (by kernel_rfl) (by kernel_rfl) (fun _ _ _ h => h) (Or.inl ⟨by kernel_rfl, ?_⟩) ?_
        rotate_left 1
        · intro W8
          go_simp
          all_goals with_reducible rfl
        try simp only [Act.put, List.setIfInBounds_toArray, List.set_cons_zero, List.set_cons_succ]
        refine wpAny_ready (rs := [12]) (by kernel_rfl) (by simp) (AllReady.cons rfl (fun K hK => ?_) AllReady.nil)
        go_simp
        refine hK _ _ ?_
        clear hK K
        try simp only [Act.put, List.setIfInBounds_toArray, List.set_cons_zero, List.set_cons_succ]
        refine wpAny_ready (rs := [13]) (by kernel_rfl) (by simp) (AllReady.cons rfl (fun K hK => ?_) AllReady.nil)
        go_simp
        refine hK _ _ ?_
        clear hK K
        try simp only [Act.put, List.setIfInBounds_toArray, List.set_cons_zero, List.set_cons_succ]
        refine wpAny_done (by kernel_rfl) ?_ _
        have HKW := Lib.hid hkw11.2
        have HI1 := Lib.hid i1
        have HI2 := Lib.hid i2
        have HI3 := Lib.hid i3
        have hF1 : Fr (w9.heap.size + 1) X1 := fr_le f1 hcw
        have hF2 : Fr (w9.heap.size + 1) X2 := fr_le f2 hcw
        have hF3 : Fr (w9.heap.size + 1) X3 := fr_le f3 hcw
        clear i1 i2 i3 f1 f2 f3 t0 t1 t2 t3 t4 q0 q1 q2 q3 q4 zt hcw hHeld hkw9 hbw9 hkA hkw10 hbw10 hkw11 hbw11
        go_wp2_with fail
        go_meet
        case rel => 
          exact ⟨w9.heap.size, X1, k1, X2, k2, X3, k3, rfl, rfl, hTm, g1, g2, g3, HCT.out.set5 _ _ _ _ _, ⟨HI1.out.fr5 hF1 (Nat.lt_succ_self _) _ _ _ _ _, HI2.out.fr5 hF2 (Nat.lt_succ_self _) _ _ _ _ _, HI3.out.fr5 hF3 (Nat.lt_succ_self _) _ _ _ _ _⟩, ⟨fr_le hF1 (by omega), fr_le hF2 (by omega), fr_le hF3 (by omega)⟩, below_set5 HKW.out hTm _ _ _ _ _⟩
    · have hTm := Nat.le_refl m5.heap.size
      go_simp
      refine hK.out _ _ (Kp.mk (show Below m5.heap.size m5 _ from ((Below.refl _ _).alloc (Nat.le_refl _) _).drew)) (fun hkA => ?_)
      clear hK K
      try simp only [Act.put, List.setIfInBounds_toArray, List.set_cons_zero, List.set_cons_succ]
      refine K_step' (i := 3) (by kernel_rfl) rfl (fun K hK => ?_)
      go_simp
      refine (KI.out _ ((hkA.1 b _ hb5).trans s2) ((hkA.1 b _ hb5).trans s3)).mono ?_
      rintro r w9 ⟨rfl, hbw9⟩
      have hkw9 := Kp.next hkA hbw9
      have CT := ((Cl.new (w := m5) rfl [.slice none 0 0, .slice none 0 0, .int .i64 0, .int .i64 0, .slice none 0 0] 25).below ((Below.refl _ _).drew)).below hbw9
      refine hK.out _ _ hkw9 (fun hHn => ?_)
      clear hK K hHn
      try simp only [Act.put, List.setIfInBounds_toArray, List.set_cons_zero, List.set_cons_succ]
      refine K_step' (i := 6) (by kernel_rfl) rfl (fun K hK => ?_)
      go_simp
      refine (KN.out _ (HI8.out.below hkw9.2)).mono ?_
      rintro r w10 ⟨rfl, hbw10⟩
      have hkw10 := Kp.next hkw9 hbw10
      replace CT := CT.below hbw10
      refine hK.out _ _ hkw10 (fun hHn => ?_)
      clear hK K hHn
      try simp only [Act.put, List.setIfInBounds_toArray, List.set_cons_zero, List.set_cons_succ]
      refine K_step (by kernel_rfl) (by kernel_rfl) rfl (fun K hK => ?_)
      have hcw := CT.1
      go_simp
      refine (KW.out _ ((HB1.out.below HG5.out).below hkw10.2) ((HB2.out.below HG5.out).below hkw10.2) ((HB3.out.below HG5.out).below hkw10.2)).mono ?_
      rintro r w11 h
      obtain ⟨X1, _, k1, X2, _, k2, X3, _, k3, rfl, rfl, g1, i1, rfl, g2, i2, rfl, g3, i3, f1, f2, f3, hbW⟩ := h
      have hbw11 := hbW
      have hkw11 := Kp.next hkw10 hbw11
      clear hbW
      replace CT := CT.below hbw11
      refine hK.out _ _ ?_
      clear hK K
      try simp only [Act.put, List.setIfInBounds_toArray, List.set_cons_zero, List.set_cons_succ]
      have HCT := Lib.hid CT
      have t0 := CT.c 0 rfl
      have t1 := CT.c 1 rfl
      have t2 := CT.c 2 rfl
      have t3 := CT.c 3 rfl
      have t4 := CT.c 4 rfl
      have q0 := CT.f 0 rfl
      have q1 := CT.f 1 rfl
      have q2 := CT.f 2 rfl
      have q3 := CT.f 3 rfl
      have q4 := CT.f 4 rfl
      have zt := CT.1
      clear CT
      refine wpAny_take (i := 8) (v := ?_) rfl (by kernel_rfl) (by kernel_rfl) (by kernel_rfl) (fun _ _ _ h => h) (Or.inl ⟨by kernel_rfl, ?_⟩) ?_
      rotate_left 1
      · intro W8
        go_simp
        all_goals with_reducible rfl
      try simp only [Act.put, List.setIfInBounds_toArray, List.set_cons_zero, List.set_cons_succ]
      refine wpAny_take (i := 9) (v := ?_) rfl (by kernel_rfl) (by kernel_rfl) (by kernel_rfl) (fun _ _ _ h => h) (Or.inl ⟨by kernel_rfl, ?_⟩) ?_
      rotate_left 1
      · intro W8
        go_simp
        all_goals with_reducible rfl
      try simp only [Act.put, List.setIfInBounds_toArray, List.set_cons_zero, List.set_cons_succ]
      refine wpAny_take (i := 10) (v := ?_) rfl (by kernel_rfl) (by kernel_rfl) (by kernel_rfl) (fun _ _ _ h => h) (Or.inl ⟨by kernel_rfl, ?_⟩) ?_
      rotate_left 1
      · intro W8
        go_simp
        all_goals with_reducible rfl
      try simp only [Act.put, List.setIfInBounds_toArray, List.set_cons_zero, List.set_cons_succ]
      refine wpAny_ready (rs := [12]) (by kernel_rfl) (by simp) (AllReady.cons rfl (fun K hK => ?_) AllReady.nil)
      go_simp
      refine hK _ _ ?_
      clear hK K
      try simp only [Act.put, List.setIfInBounds_toArray, List.set_cons_zero, List.set_cons_succ]
      refine wpAny_ready (rs := [13]) (by kernel_rfl) (by simp) (AllReady.cons rfl (fun K hK => ?_) AllReady.nil)
      go_simp
      refine hK _ _ ?_
      clear hK K
      try simp only [Act.put, List.setIfInBounds_toArray, List.set_cons_zero, List.set_cons_succ]
      refine wpAny_done (by kernel_rfl) ?_ _
      have HKW := Lib.hid hkw11.2
      have HI1 := Lib.hid i1
      have HI2 := Lib.hid i2
      have HI3 := Lib.hid i3
      have hF1 : Fr (m5.heap.size + 1) X1 := fr_le f1 hcw
      have hF2 : Fr (m5.heap.size + 1) X2 := fr_le f2 hcw
      have hF3 : Fr (m5.heap.size + 1) X3 := fr_le f3 hcw
      clear i1 i2 i3 f1 f2 f3 t0 t1 t2 t3 t4 q0 q1 q2 q3 q4 zt hcw hHeld hkA hkw9 hbw9 hkw10 hbw10 hkw11 hbw11
      go_wp2_with fail
      go_meet
      case rel => 
        exact ⟨m5.heap.size, X1, k1, X2, k2, X3, k3, rfl, rfl, hTm, g1, g2, g3, HCT.out.set5 _ _ _ _ _, ⟨HI1.out.fr5 hF1 (Nat.lt_succ_self _) _ _ _ _ _, HI2.out.fr5 hF2 (Nat.lt_succ_self _) _ _ _ _ _, HI3.out.fr5 hF3 (Nat.lt_succ_self _) _ _ _ _ _⟩, ⟨fr_le hF1 (by omega), fr_le hF2 (by omega), fr_le hF3 (by omega)⟩, below_set5 HKW.out hTm _ _ _ _ _⟩
  case rest =>
    clear KI KN HI8 s1 s2 s3 KW
    obtain ⟨T, X1, k1, X2, k2, X3, k3, rfl, rfl, hT, g1, g2, g3, hC, hI, hF, hB⟩ := hcut
    have HQN := Lib.hid (HQ5.out.below hB)
    have HGN := Lib.hid (chain HG5.out hB)
    have HCN := Lib.hid hC
    have HIN := Lib.hid hI
    have HFN := Lib.hid (show Fr (w.heap.size + 2) X1 ∧ Fr (w.heap.size + 2) X2 ∧ Fr (w.heap.size + 2) X3 from ⟨fr_le hF.1 hm2, fr_le hF.2.1 hm2, fr_le hF.2.2 hm2⟩)
    have nTQ : T ≠ w.heap.size + 1 := by omega
    clear hC hI hF hB HP5 HQ5 HG5 HB1 HB2 HB3 p0 p1 p2 p3 p4 hm2 hPm hT
    have t0 := HCN.out.c 0 rfl
    have t1 := HCN.out.c 1 rfl
    have t2 := HCN.out.c 2 rfl
    have t3 := HCN.out.c 3 rfl
    have t4 := HCN.out.c 4 rfl
    have q0 := HQN.out.c 0 rfl
    have q1 := HQN.out.c 1 rfl
    have q2 := HQN.out.c 2 rfl
    have q3 := HQN.out.c 3 rfl
    have q4 := HQN.out.c 4 rfl
    have f0 := HQN.out.f 0 rfl
    have f1 := HQN.out.f 1 rfl
    have f2 := HQN.out.f 2 rfl
    have f3 := HQN.out.f 3 rfl
    have f4 := HQN.out.f 4 rfl
    have zt := HCN.out.1
    have zq := HQN.out.1
    go_wp2_with fail
    refine bodyPost_ret (v := .tuple #[.agg #[.slice X1 Rq.length k1, .slice X2 Wq.length k2, .int .i64 Acq, .int .i64 Peq, .slice X3 Chq.length k3], .slice A4 mm c4, .slice none 0 0, .int .i64 eq]) (by simp [results, Try.results42, go_sem, q0, f0, q1, f1, q2, f2, q3, f3, q4, f4, zq] <;> first | rfl | ((repeat' apply And.intro) <;> rfl)) rfl ⟨X1, k1, X2, k2, X3, k3, rfl, g1, g2, g3, HIN.out.1.fr5 HFN.out.1 (by omega) _ _ _ _ _, HIN.out.2.1.fr5 HFN.out.2.1 (by omega) _ _ _ _ _, HIN.out.2.2.fr5 HFN.out.2.2 (by omega) _ _ _ _ _, ⟨fr_le HFN.out.1 (by omega), fr_le HFN.out.2.1 (by omega), fr_le HFN.out.2.2 (by omega)⟩, below_set5 HGN.out (by omega) _ _ _ _ _⟩
set_option maxRecDepth 100000 in
set_option maxHeartbeats 16000000 in
theorem r42_sel (A : Option Addr) (n c : Nat) (A2 : Option Addr) (n2 c2 : Nat) (Ac Pe : Int) (A3 : Option Addr) (m c3 : Nat) (R W : List Int) (ch : List (Int × Int)) (A4 : Option Addr) (mm c4 : Nat) (l : List MV) (b o c5 : Nat) (x eq : Int) (q : PG) (w : World) (hl : R.length = n) (hb : Ik .i64 w A R) (hc : n ≤ c) (hl2 : W.length = n2) (hb2 : Ik .i64 w A2 W) (hc2 : n2 ≤ c2) (hl3 : ch.length = m) (hb3 : Ik .i64 w A3 (flat ch)) (hc3 : m ≤ c3) (hs : n ≤ 5000) (hs2 : n2 ≤ 5000) (hs3 : m ≤ 5000) (hlm : l.length = mm) (hcv : Cv w A4 (flatM l)) (hmo : Mo [] w l) (hcm : mm ≤ c4) (hv : vP R W Ac Pe ch = true) (hm8 : (decide (mm ≤ 8) && !l.any bV) = true) (K56 : ∀ w1, Below w.heap.size w w1 → Calls Try.prog 56 #[.slice (some ⟨b, o, none⟩) 2 c5] w1 fun r w' => r = .returned (.bool true) ∧ w1 = w') (h0 : w.cell? ⟨b, o, none⟩ = some (.int .u8 3)) (hbl : b < w.heap.size) (hc5 : 2 ≤ c5) (h1 : w.cell? ⟨b, o + 1, none⟩ = some (.int .u8 x)) (x0 : 0 ≤ x) (x1 : x ≤ 255) (hr : selM ⟨R, W, Ac, Pe, ch⟩ x = (q, eq)) : Calls Try.prog 42 #[.agg #[.slice A n c, .slice A2 n2 c2, .int .i64 Ac, .int .i64 Pe, .slice A3 m c3], .slice A4 mm c4, .slice (some ⟨b, o, none⟩) 2 c5] w (fun r w' => ∃ X1 k1 X2 k2 X3 k3, r = .returned (.tuple #[.agg #[.slice X1 q.R.length k1, .slice X2 q.W.length k2, .int .i64 q.Ac, .int .i64 q.Pe, .slice X3 q.Ch.length k3], .slice A4 mm c4, .slice none 0 0, .int .i64 eq]) ∧ q.R.length ≤ k1 ∧ q.W.length ≤ k2 ∧ q.Ch.length ≤ k3 ∧ Ik .i64 w' X1 q.R ∧ Ik .i64 w' X2 q.W ∧ Ik .i64 w' X3 (flat q.Ch) ∧ (Fr w.heap.size X1 ∧ Fr w.heap.size X2 ∧ Fr w.heap.size X3) ∧ Below w.heap.size w w') := by
  have KS := fun w h h2 h3 => sel18u A n c A2 n2 c2 Ac Pe A3 m c3 R W ch x w hl h hc hl2 h2 hc2 hl3 h3 hc3 hs hs2 hs3
  rw [hr] at KS
  obtain ⟨Rq, Wq, Acq, Peq, Chq⟩ := q
  simp only at KS
  replace KS := Lib.hid KS
  have HWX := Lib.hid (show IntKind.i64.wrap x = x by rw [IntKind.wrap_i64]; omega)
  have KV := fun w h h2 h3 => rvalid12 A n c A2 n2 c2 Ac Pe A3 m c3 R W ch w hl h hc hl2 h2 hc2 hl3 h3 hc3 hs hs2 hs3
  rw [hv] at KV
  replace KV := Lib.hid KV
  have KM := fun w h h' => rmeas55 A4 mm c4 l w hlm h h' hcm
  rw [hm8] at KM
  replace KM := Lib.hid KM
  have HCV := Lib.hid hcv
  have HMO := Lib.hid hmo
  have HB1 := Lib.hid hb
  have HB2 := Lib.hid hb2
  have HB3 := Lib.hid hb3
  have HP0 := Lib.hid ((Cl.new (w := w) rfl [.slice A n c, .slice A2 n2 c2, .int .i64 Ac, .int .i64 Pe, .slice A3 m c3] 25).below ((Below.refl _ _).alloc (Nat.le_refl _) (.cells #[.slice none 0 0, .slice none 0 0, .int .i64 0, .int .i64 0, .slice none 0 0] 25)))
  have HQ0 := Lib.hid (Cl.new (P := w.heap.size + 1) (w := w.alloc (.cells #[.slice A n c, .slice A2 n2 c2, .int .i64 Ac, .int .i64 Pe, .slice A3 m c3] 25)) (by simp) [.slice none 0 0, .slice none 0 0, .int .i64 0, .int .i64 0, .slice none 0 0] 25)
  have HG0 := Lib.hid (show Below w.heap.size w ((w.alloc (.cells #[.slice A n c, .slice A2 n2 c2, .int .i64 Ac, .int .i64 Pe, .slice A3 m c3] 25)).alloc (.cells #[.slice none 0 0, .slice none 0 0, .int .i64 0, .int .i64 0, .slice none 0 0] 25)) by go_grown)
  replace K56 := Lib.hid K56
  clear hl hl2 hl3 hb hb2 hb3 hlm hcv hmo hm8 hr
  go_enter Try.func42, Try.ntmps42
  have p0 := HP0.out.c 0 rfl
  have p1 := HP0.out.c 1 rfl
  have p2 := HP0.out.c 2 rfl
  have p3 := HP0.out.c 3 rfl
  have p4 := HP0.out.c 4 rfl
  have zp := HP0.out.1
  go_wp2_with fail
  refine (KV.out _ (HB1.out.below HG0.out) (HB2.out.below HG0.out) (HB3.out.below HG0.out)).mono ?_
  rintro r w1 ⟨rfl, hbw1⟩
  have HP1 := Lib.hid (HP0.out.below hbw1)
  have HQ1 := Lib.hid (HQ0.out.below hbw1)
  have HG1 := Lib.hid (chain HG0.out hbw1)
  clear hbw1 HP0 HQ0 HG0
  clear p0 p1 p2 p3 p4 zp KV
  go_wp2_with fail
  refine (KM.out _ (HCV.out.below HG1.out) (HMO.out.below HG1.out)).mono ?_
  rintro r m5 ⟨rfl, hbm5⟩
  have HP5 := Lib.hid (HP1.out.below hbm5)
  have HQ5 := Lib.hid (HQ1.out.below hbm5)
  have HG5 := Lib.hid (chain HG1.out hbm5)
  clear hbm5 HP1 HQ1 HG1
  clear KM
  go_wp2_with fail
  refine (K56.out _ HG5.out).mono ?_
  rintro r w3 ⟨rfl, rfl⟩
  have hb5 : b < m5.heap.size := by have := HG5.out.size; omega
  have hPm : w.heap.size < m5.heap.size := HP5.out.1
  have hm2 : w.heap.size + 2 ≤ m5.heap.size := HQ5.out.1
  have s1 : m5.cell? ⟨b, o, none⟩ = some (.int .u8 3) := ((bcell HG5.out).1 b _ hbl).trans h0
  have s2 : m5.cell? ⟨b, o + 1, none⟩ = some (.int .u8 x) := ((bcell HG5.out).1 b _ hbl).trans h1
  clear h0 h1
  go_upto_region 13 with fail
  have f1' : (1 : Int) < (2 : Int) := by decide
  have p0 := HP5.out.c 0 rfl
  have p1 := HP5.out.c 1 rfl
  have p2 := HP5.out.c 2 rfl
  have p3 := HP5.out.c 3 rfl
  have p4 := HP5.out.c 4 rfl
  go_cut [14, 15] from 71 to 79 (fun v14 v15 wc => ∃ (T : Nat) (X1 : Option Addr) (k1 : Nat) (X2 : Option Addr) (k2 : Nat) (X3 : Option Addr) (k3 : Nat), v14 = .pointer (some ⟨T, 0, none⟩) ∧ v15 = .int .i64 eq ∧ m5.heap.size ≤ T ∧ Rq.length ≤ k1 ∧ Wq.length ≤ k2 ∧ Chq.length ≤ k3 ∧ Cl T wc [.slice X1 Rq.length k1, .slice X2 Wq.length k2, .int .i64 Acq, .int .i64 Peq, .slice X3 Chq.length k3] ∧ (Ik .i64 wc X1 Rq ∧ Ik .i64 wc X2 Wq ∧ Ik .i64 wc X3 (flat Chq)) ∧ (Fr m5.heap.size X1 ∧ Fr m5.heap.size X2 ∧ Fr m5.heap.size X3) ∧ Below m5.heap.size m5 wc)
  case first =>
    refine region_K (fun W' => (∀ b o, b < m5.heap.size → W'.cell? ⟨b, o, none⟩ = m5.cell? ⟨b, o, none⟩) ∧ Below m5.heap.size m5 W') 5 (by kernel_rfl) (Kp.mk (Below.refl _ _).drew) (fun hHeld => ?_)
    refine K_take' (i := 1) (v := ?_) rfl (by kernel_rfl) (by kernel_rfl) (by kernel_rfl) (by kernel_rfl) (fun _ _ _ h => h) (Or.inl ⟨by kernel_rfl, ?_⟩) hHeld ?_
    rotate_left 1
    · intro W8 hSw
      clear hSw
      go_simp
      all_goals with_reducible rfl
    try simp only [Act.put, List.setIfInBounds_toArray, List.set_cons_zero, List.set_cons_succ]
    refine K_take (i := 0) (v := ?_) rfl (by kernel_rfl) (by kernel_rfl) (by kernel_rfl) (by kernel_rfl) (by kernel_rfl) (fun _ _ _ h => h) (Or.inl ⟨by kernel_rfl, ?_⟩) hHeld ?_
    rotate_left 1
    · intro W8 hSw
      (try dsimp only at hSw)
      go_simp
      all_goals with_reducible rfl
    try simp only [Act.put, List.setIfInBounds_toArray, List.set_cons_zero, List.set_cons_succ]
    refine K_take' (i := 2) (v := ?_) rfl (by kernel_rfl) (by kernel_rfl) (by kernel_rfl) (by kernel_rfl) (fun _ _ _ h => h) (Or.inl ⟨by kernel_rfl, ?_⟩) hHeld ?_
    rotate_left 1
    · intro W8 hSw
      clear hSw
      go_simp
      all_goals with_reducible rfl
    try simp only [Act.put, List.setIfInBounds_toArray, List.set_cons_zero, List.set_cons_succ]
    refine K_take (i := 3) (v := ?_) rfl (by kernel_rfl) (by kernel_rfl) (by kernel_rfl) (by kernel_rfl) (by kernel_rfl) (fun _ _ _ h => h) (Or.inl ⟨by kernel_rfl, ?_⟩) hHeld ?_
    rotate_left 1
    · intro W8 hSw
      (try dsimp only at hSw)
      go_simp
      all_goals with_reducible rfl
    try simp only [Act.put, List.setIfInBounds_toArray, List.set_cons_zero, List.set_cons_succ]
    refine K_take' (i := 4) (v := ?_) rfl (by kernel_rfl) (by kernel_rfl) (by kernel_rfl) (by kernel_rfl) (fun _ _ _ h => h) (Or.inl ⟨by kernel_rfl, ?_⟩) hHeld ?_
    rotate_left 1
    · intro W8 hSw
      clear hSw
      go_simp
      all_goals with_reducible rfl
    try simp only [Act.put, List.setIfInBounds_toArray, List.set_cons_zero, List.set_cons_succ]
    refine K_two (j := 9) (by kernel_rfl) (by kernel_rfl) rfl rfl (fun K hK => ?_) (fun K hK => ?_)
    · go_simp
      rw [HWX.out]
      refine (KS.out _ ((HB1.out.below HG5.out).below hHeld.2) ((HB2.out.below HG5.out).below hHeld.2) ((HB3.out.below HG5.out).below hHeld.2)).mono ?_
      rintro r w10 h
      obtain ⟨X1, _, k1, X2, _, k2, X3, _, k3, rfl, rfl, g1, i1, rfl, g2, i2, rfl, g3, i3, f1, f2, f3, hbW⟩ := h
      have hkW := Kp.next hHeld hbW
      refine hK.out _ _ ?_
      clear hK K
      try simp only [Act.put, List.setIfInBounds_toArray, List.set_cons_zero, List.set_cons_succ]
      refine wpAny_take (i := 6) (v := ?_) rfl (by kernel_rfl) (by kernel_rfl) (by kernel_rfl) (fun _ _ _ h => h) (Or.inl ⟨by kernel_rfl, ?_⟩) ?_
      rotate_left 1
      · intro W8
        go_simp
        all_goals with_reducible rfl
      try simp only [Act.put, List.setIfInBounds_toArray, List.set_cons_zero, List.set_cons_succ]
      refine wpAny_take (i := 7) (v := ?_) rfl (by kernel_rfl) (by kernel_rfl) (by kernel_rfl) (fun _ _ _ h => h) (Or.inl ⟨by kernel_rfl, ?_⟩) ?_
      rotate_left 1
      · intro W8
        go_simp
        all_goals with_reducible rfl
      try simp only [Act.put, List.setIfInBounds_toArray, List.set_cons_zero, List.set_cons_succ]
      refine wpAny_take (i := 8) (v := ?_) rfl (by kernel_rfl) (by kernel_rfl) (by kernel_rfl) (fun _ _ _ h => h) (Or.inl ⟨by kernel_rfl, ?_⟩) ?_
      rotate_left 1
      · intro W8
        go_simp
        all_goals with_reducible rfl
      try simp only [Act.put, List.setIfInBounds_toArray, List.set_cons_zero, List.set_cons_succ]
      refine wpAny_ready (rs := [9]) (by kernel_rfl) (by simp) (AllReady.cons rfl (fun K hK => ?_) AllReady.nil)
      go_simp
      refine hK _ _ ?_
      clear hK K
      try simp only [Act.put, List.setIfInBounds_toArray, List.set_cons_zero, List.set_cons_succ]
      refine wpAny_ready (rs := [10]) (by kernel_rfl) (by simp) (AllReady.cons rfl (fun K hK => ?_) AllReady.nil)
      go_simp
      refine hK _ _ ?_
      clear hK K
      try simp only [Act.put, List.setIfInBounds_toArray, List.set_cons_zero, List.set_cons_succ]
      refine wpAny_ready (rs := [11]) (by kernel_rfl) (by simp) (AllReady.cons rfl (fun K hK => ?_) AllReady.nil)
      go_simp
      refine hK _ _ ?_
      clear hK K
      try simp only [Act.put, List.setIfInBounds_toArray, List.set_cons_zero, List.set_cons_succ]
      refine wpAny_done (by kernel_rfl) ?_ _
      have hz9 := hkW.2.size
      have HKW := Lib.hid hkW.2
      have HI1 := Lib.hid i1
      have HI2 := Lib.hid i2
      have HI3 := Lib.hid i3
      have hF1 : Fr m5.heap.size X1 := f1
      have hF2 : Fr m5.heap.size X2 := f2
      have hF3 : Fr m5.heap.size X3 := f3
      clear i1 i2 i3 f1 f2 f3 hkW hbW hHeld p0 p1 p2 p3 p4
      go_wp2_with fail
      go_meet
      case rel => 
        have al : Below w10.heap.size w10 (w10.alloc (.cells #[.slice X1 Rq.length k1, .slice X2 Wq.length k2, .int .i64 Acq, .int .i64 Peq, .slice X3 Chq.length k3] 25)) := (Below.refl _ _).alloc (Nat.le_refl _) _
        exact ⟨w10.heap.size, X1, k1, X2, k2, X3, k3, rfl, rfl, hz9, g1, g2, g3, Cl.new rfl [.slice X1 Rq.length k1, .slice X2 Wq.length k2, .int .i64 Acq, .int .i64 Peq, .slice X3 Chq.length k3] 25, ⟨HI1.out.below al, HI2.out.below al, HI3.out.below al⟩, ⟨hF1, hF2, hF3⟩, HKW.out.alloc hz9 _⟩
    · go_simp
      refine hK.out _ _ (Kp.mk (show Below m5.heap.size m5 _ from ((Below.refl _ _).alloc (Nat.le_refl _) _).drew)) (fun hHeld2 => ?_)
      clear hK K
      try simp only [Act.put, List.setIfInBounds_toArray, List.set_cons_zero, List.set_cons_succ]
      refine K_step (by kernel_rfl) (by kernel_rfl) rfl (fun K hK => ?_)
      go_simp
      rw [HWX.out]
      refine (KS.out _ ((HB1.out.below HG5.out).below hHeld2.2) ((HB2.out.below HG5.out).below hHeld2.2) ((HB3.out.below HG5.out).below hHeld2.2)).mono ?_
      rintro r w10 h
      obtain ⟨X1, _, k1, X2, _, k2, X3, _, k3, rfl, rfl, g1, i1, rfl, g2, i2, rfl, g3, i3, f1, f2, f3, hbW⟩ := h
      have hkW := Kp.next hHeld2 hbW
      refine hK.out _ _ ?_
      clear hK K
      try simp only [Act.put, List.setIfInBounds_toArray, List.set_cons_zero, List.set_cons_succ]
      have hT9 : m5.heap.size < w10.heap.size := by have := hbW.size; simp at this; omega
      have CT : Cl m5.heap.size w10 [.slice none 0 0, .slice none 0 0, .int .i64 0, .int .i64 0, .slice none 0 0] := ((Cl.new (w := m5) rfl [.slice none 0 0, .slice none 0 0, .int .i64 0, .int .i64 0, .slice none 0 0] 25).below ((Below.refl _ _).drew)).below hbW
      have HCT := Lib.hid CT
      have t0 := CT.c 0 rfl
      have t1 := CT.c 1 rfl
      have t2 := CT.c 2 rfl
      have t3 := CT.c 3 rfl
      have t4 := CT.c 4 rfl
      have q0 := CT.f 0 rfl
      have q1 := CT.f 1 rfl
      have q2 := CT.f 2 rfl
      have q3 := CT.f 3 rfl
      have q4 := CT.f 4 rfl
      have zt := CT.1
      clear CT
      refine wpAny_take (i := 6) (v := ?_) rfl (by kernel_rfl) (by kernel_rfl) (by kernel_rfl) (fun _ _ _ h => h) (Or.inl ⟨by kernel_rfl, ?_⟩) ?_
      rotate_left 1
      · intro W8
        go_simp
        all_goals with_reducible rfl
      try simp only [Act.put, List.setIfInBounds_toArray, List.set_cons_zero, List.set_cons_succ]
      refine wpAny_take (i := 7) (v := ?_) rfl (by kernel_rfl) (by kernel_rfl) (by kernel_rfl) (fun _ _ _ h => h) (Or.inl ⟨by kernel_rfl, ?_⟩) ?_
      rotate_left 1
      · intro W8
        go_simp
        all_goals with_reducible rfl
      try simp only [Act.put, List.setIfInBounds_toArray, List.set_cons_zero, List.set_cons_succ]
      refine wpAny_take (i := 8) (v := ?_) rfl (by kernel_rfl) (by kernel_rfl) (by kernel_rfl) (fun _ _ _ h => h) (Or.inl ⟨by kernel_rfl, ?_⟩) ?_
      rotate_left 1
      · intro W8
        go_simp
        all_goals with_reducible rfl
      try simp only [Act.put, List.setIfInBounds_toArray, List.set_cons_zero, List.set_cons_succ]
      refine wpAny_ready (rs := [10]) (by kernel_rfl) (by simp) (AllReady.cons rfl (fun K hK => ?_) AllReady.nil)
      go_simp
      refine hK _ _ ?_
      clear hK K
      try simp only [Act.put, List.setIfInBounds_toArray, List.set_cons_zero, List.set_cons_succ]
      refine wpAny_ready (rs := [11]) (by kernel_rfl) (by simp) (AllReady.cons rfl (fun K hK => ?_) AllReady.nil)
      go_simp
      refine hK _ _ ?_
      clear hK K
      try simp only [Act.put, List.setIfInBounds_toArray, List.set_cons_zero, List.set_cons_succ]
      refine wpAny_done (by kernel_rfl) ?_ _
      have HKW := Lib.hid hkW.2
      have HI1 := Lib.hid i1
      have HI2 := Lib.hid i2
      have HI3 := Lib.hid i3
      have hF1 : Fr (m5.heap.size + 1) X1 := fun b o e => by have := f1 b o e; simpa using this
      have hF2 : Fr (m5.heap.size + 1) X2 := fun b o e => by have := f2 b o e; simpa using this
      have hF3 : Fr (m5.heap.size + 1) X3 := fun b o e => by have := f3 b o e; simpa using this
      clear i1 i2 i3 f1 f2 f3 hkW hbW hHeld hHeld2 p0 p1 p2 p3 p4 t0 t1 t2 t3 t4 q0 q1 q2 q3 q4 zt
      go_wp2_with fail
      go_meet
      case rel => 
        exact ⟨m5.heap.size, X1, k1, X2, k2, X3, k3, rfl, rfl, Nat.le_refl _, g1, g2, g3, HCT.out.set5 _ _ _ _ _, ⟨HI1.out.fr5 hF1 (Nat.lt_succ_self _) _ _ _ _ _, HI2.out.fr5 hF2 (Nat.lt_succ_self _) _ _ _ _ _, HI3.out.fr5 hF3 (Nat.lt_succ_self _) _ _ _ _ _⟩, ⟨fr_le hF1 (Nat.le_succ _), fr_le hF2 (Nat.le_succ _), fr_le hF3 (Nat.le_succ _)⟩, below_set5 HKW.out (Nat.le_refl _) _ _ _ _ _⟩
  case rest =>
    clear s1 s2 KS HWX
    obtain ⟨T, X1, k1, X2, k2, X3, k3, rfl, rfl, hT, g1, g2, g3, hC, hI, hF, hB⟩ := hcut
    have HQN := Lib.hid (HQ5.out.below hB)
    have HGN := Lib.hid (chain HG5.out hB)
    have HCN := Lib.hid hC
    have HIN := Lib.hid hI
    have HFN := Lib.hid (show Fr (w.heap.size + 2) X1 ∧ Fr (w.heap.size + 2) X2 ∧ Fr (w.heap.size + 2) X3 from ⟨fr_le hF.1 hm2, fr_le hF.2.1 hm2, fr_le hF.2.2 hm2⟩)
    have nTQ : T ≠ w.heap.size + 1 := by omega
    clear hC hI hF hB HP5 HQ5 HG5 HB1 HB2 HB3 p0 p1 p2 p3 p4 hm2 hPm hT
    have t0 := HCN.out.c 0 rfl
    have t1 := HCN.out.c 1 rfl
    have t2 := HCN.out.c 2 rfl
    have t3 := HCN.out.c 3 rfl
    have t4 := HCN.out.c 4 rfl
    have q0 := HQN.out.c 0 rfl
    have q1 := HQN.out.c 1 rfl
    have q2 := HQN.out.c 2 rfl
    have q3 := HQN.out.c 3 rfl
    have q4 := HQN.out.c 4 rfl
    have f0 := HQN.out.f 0 rfl
    have f1 := HQN.out.f 1 rfl
    have f2 := HQN.out.f 2 rfl
    have f3 := HQN.out.f 3 rfl
    have f4 := HQN.out.f 4 rfl
    have zt := HCN.out.1
    have zq := HQN.out.1
    go_wp2_with fail
    refine bodyPost_ret (v := .tuple #[.agg #[.slice X1 Rq.length k1, .slice X2 Wq.length k2, .int .i64 Acq, .int .i64 Peq, .slice X3 Chq.length k3], .slice A4 mm c4, .slice none 0 0, .int .i64 eq]) (by simp [results, Try.results42, go_sem, q0, f0, q1, f1, q2, f2, q3, f3, q4, f4, zq] <;> first | rfl | ((repeat' apply And.intro) <;> rfl)) rfl ⟨X1, k1, X2, k2, X3, k3, rfl, g1, g2, g3, HIN.out.1.fr5 HFN.out.1 (by omega) _ _ _ _ _, HIN.out.2.1.fr5 HFN.out.2.1 (by omega) _ _ _ _ _, HIN.out.2.2.fr5 HFN.out.2.2 (by omega) _ _ _ _ _, ⟨fr_le HFN.out.1 (by omega), fr_le HFN.out.2.1 (by omega), fr_le HFN.out.2.2 (by omega)⟩, below_set5 HGN.out (by omega) _ _ _ _ _⟩
end Go.Proofs.Ytamajedopofcoaa
