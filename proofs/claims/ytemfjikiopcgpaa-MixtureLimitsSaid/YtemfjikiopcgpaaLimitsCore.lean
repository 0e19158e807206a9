/-
  The core of the law MixtureLimits. No condition but the slice's shape.
-/
import Derived.Test.YtemfjikiopcgpaaLrPlain
set_option linter.unusedVariables false
set_option linter.unusedSimpArgs false
namespace Go.Proofs.Ytemfjikiopcgpaa
open Go.RowKit
theorem limits_out (A : Option Addr) (n cap : Nat) (f0 : Nat → Int) (L s c : Int) (w : World) (h : 200 < n) :
    Calls Try.prog 9 #[.slice A n cap, .int .u8 L, .int .u32 s, .int .u32 c] w fun x w' => x = .returned (.bool true) ∧ Below w.heap.size w w' := by
  have hd : decide ((200 : Int) < (n : Int)) = true := by simp; omega
  go_enter Try.func9, Try.ntmps9
  go_wp2_with fail
  refine (awake11 _).mono ?_
  rintro x w1 ⟨rfl, hb1⟩
  go_wp2
  go_ret
  exact ⟨rfl, hb1⟩
set_option maxRecDepth 100000 in
set_option maxHeartbeats 8000000 in
theorem limits_in (A : Option Addr) (n cap : Nat) (f0 : Nat → Int) (L s c : Int) (w : World) (hn : n ≤ 200) (hs : Ints .u16 w A n f0) (hw : ∀ i, 0 ≤ f0 i ∧ f0 i ≤ 65535) (hL : 0 ≤ L ∧ L ≤ 255) (hs0 : 0 ≤ s ∧ s ≤ 4294967295) (hc0 : 0 ≤ c ∧ c ≤ 4294967295) :
    Calls Try.prog 9 #[.slice A n cap, .int .u8 L, .int .u32 s, .int .u32 c] w fun x w' => x = .returned (.bool true) ∧ Below w.heap.size w w' := by
  obtain ⟨S, hS⟩ : ∃ S, s % 12001 = S := ⟨_, rfl⟩
  obtain ⟨C, hC⟩ : ∃ C, c % 1048577 = C := ⟨_, rfl⟩
  have S0 : 0 ≤ S ∧ S ≤ 12000 := by omega
  have C0 : 0 ≤ C ∧ C ≤ 1048576 := by omega
  have hpt : pt S C = true := by unfold pt; rw [inB_mk S0.1 S0.2, inB_mk C0.1 C0.2]; rfl
  obtain ⟨k0, k1⟩ := cellN_bd S C hpt
  obtain ⟨kk, hkk⟩ : ∃ k : Nat, cellN S C = k := ⟨(cellN S C).toNat, by omega⟩
  have CL := fun w => cell26 S C w
  rw [hkk] at CL k0 k1
  replace CL := Lib.hid CL
  have HK := Lib.hid hkk
  have hkl : kk < 9 := by omega
  have HPT := Lib.hid hpt
  have HS := Lib.hid hs
  have HW := Lib.hid hw
  obtain ⟨L0, L1⟩ := hL
  obtain ⟨s0, s1⟩ := hs0
  obtain ⟨c0, c1⟩ := hc0
  have hd : decide ((200 : Int) < (n : Int)) = false := by rw [decide_eq_false_iff_not]; omega
  clear hs hw hpt hkk
  go_enter Try.func9, Try.ntmps9
  go_wp2_with fail
  refine (awake11 _).mono ?_
  rintro x w1 ⟨rfl, hb1⟩
  go_wp2_with fail
  refine (new17 _).mono ?_
  rintro x w2 ⟨b2, rfl, hbb, hbl, hcl, hb2⟩
  have hg2 := chain hb1 hb2
  have hzP : w.heap.size ≤ w2.heap.size := hg2.size
  have P0 := Lib.hid (PV.new (w := w2) rfl false false 1000 0 (some ⟨b2, 0, none⟩) 9 9)
  have C0' := Lib.hid (hcl.below ((Below.refl _ _).alloc (Nat.le_refl _) (.cells #[.bool false, .bool false, .int .i64 1000, .int .i64 0, .slice (some ⟨b2, 0, none⟩) 9 9] 24)))
  clear hb1 hb2 hcl
  go_wp2_with fail
  go_loopg [32] n (fun gk ix wr => ∃ (k : Nat) (a r : Bool) (F W : Int) (b c : Nat) (f g : Nat → Int), k ≤ n ∧ n - k ≤ gk ∧ ix = .int .i64 k ∧ PV w2.heap.size wr a r F W (some ⟨b, 0, none⟩) 9 c ∧ b ≠ w2.heap.size ∧ Cls wr (some ⟨b, 0, none⟩) 9 f g ∧ Below w.heap.size w wr ∧ Hid (okP a r F W 9 f g = true))
  case atStart =>
    exact ⟨0, false, false, 1000, 0, b2, 9, _, _, by omega, by omega, rfl, P0.out, by omega, C0'.out, by go_grown, ok_zero (by omega) (by omega) (.inr ⟨rfl, rfl⟩)⟩
  case round =>
    clear P0 C0' hbb hbl
    obtain ⟨k, a, r, F, W, b, c, f, g, hk, hgk, rfl, hP, hne, hCl, hg, HQ⟩ := hrel
    by_cases hlt : k < n
    · obtain ⟨bm, om, rfl, hbm, hcm⟩ := HS.out (by omega)
      have d0 := ((bcell hg).1 _ _ hbm).trans (hcm k hlt)
      obtain ⟨x0, x1⟩ := HW.out k
      obtain ⟨X, hX⟩ : ∃ X, X = f0 k := ⟨_, rfl⟩
      rw [← hX] at d0 x0 x1
      obtain ⟨M, hM⟩ : ∃ M, X % 20001 = M := ⟨_, rfl⟩
      have M0 : 0 ≤ M ∧ M ≤ 20000 := by omega
      obtain ⟨p0, p1, p2, p3, p4, e0, e1, e2, e3, e4, hl⟩ := id hP
      have HP := Lib.hid hP
      have HC := Lib.hid hCl
      have A13 := Lib.hid (fun w h0 => step_run a r F W (some ⟨b, 0, none⟩) c f g M S C w (stepA a M) (stepR a r M) (stepF a r F M) (stepW a r W M) h0 HQ.out (by rw [HPT.out, inB_mk M0.1 M0.2]; rfl) rfl rfl rfl rfl)
      have HV := Lib.hid (step_valid2 (mv := M) HQ.out)
      generalize stepA a M = a' at A13 HV
      generalize stepR a r M = r' at A13 HV
      generalize stepF a r F M = F' at A13 HV
      generalize stepW a r W M = W' at A13 HV
      clear hP hCl hcm hX
      go_wp2_with fail
      refine (A13.out _ HC.out).mono ?_
      rintro x w4 ⟨b4, c4, rfl, hb4a, hb4b, hc4, hb4⟩
      have hg4 := chain hg hb4
      have P4 := HP.out.below hb4
      have X4 := PV.new (w := w4) rfl a' r' F' W' (some ⟨b4, 0, none⟩) 9 c4
      have hAl : Below w4.heap.size w4 (w4.alloc (.cells #[.bool a', .bool r', .int .i64 F', .int .i64 W', .slice (some ⟨b4, 0, none⟩) 9 c4] 24)) := (Below.refl _ _).alloc (Nat.le_refl _) _
      have R4 := Lib.hid (And.intro (P4.below hAl) (And.intro X4 (hc4.below hAl)))
      have z4 : w2.heap.size < w4.heap.size := by have := hb4.size; omega
      have hn4 : b4 ≠ w2.heap.size := by omega
      have hga := Lib.hid (hg4.alloc hg4.size (.cells #[.bool a', .bool r', .int .i64 F', .int .i64 W', .slice (some ⟨b4, 0, none⟩) 9 c4] 24))
      clear hb4 hg p0 p1 p2 p3 p4 e0 e1 e2 e3 e4 HP HC hc4 A13 hl P4 X4 hAl d0 x0 x1 hM hg4
      have B1 := Lib.hid (fun w h => valid16 a' r' F' W' (some ⟨b4, 0, none⟩) 9 c4 f g w h (by omega))
      rw [HV.out] at B1
      go_wp2_with fail
      refine (B1.out _ R4.out.2.2).mono ?_
      rintro x w5 ⟨rfl, hb5⟩
      have hg5 := chain hga.out hb5
      obtain ⟨P4, X4, C4⟩ := R4.out
      have P5 := P4.below hb5
      have X5 := X4.below hb5
      have C5 := C4.below hb5
      have hn5 : w2.heap.size ≠ w4.heap.size := by omega
      obtain ⟨q0, q1, q2, q3, q4, f0', f1, f2, f3, f4, hq⟩ := id X5
      obtain ⟨p0, p1, p2, p3, p4, e0, e1, e2, e3, e4, hl⟩ := id P5
      have P6 := P5.store a' r' F' W' (some ⟨b4, 0, none⟩) 9 c4
      have X6 := X5.fars hn5 (.bool a') (.bool r') (.int .i64 F') (.int .i64 W') (.slice (some ⟨b4, 0, none⟩) 9 c4)
      have C6 := C5.stores hn4 (.bool a') (.bool r') (.int .i64 F') (.int .i64 W') (.slice (some ⟨b4, 0, none⟩) 9 c4)
      have G6 : Below w.heap.size w (((((w5.setCell ⟨w2.heap.size, 0, none⟩ (.bool a')).setCell ⟨w2.heap.size, 1, none⟩ (.bool r')).setCell ⟨w2.heap.size, 2, none⟩ (.int .i64 F')).setCell ⟨w2.heap.size, 3, none⟩ (.int .i64 W')).setCell ⟨w2.heap.size, 4, none⟩ (.slice (some ⟨b4, 0, none⟩) 9 c4)) := ((((hg5.setCell (p := ⟨w2.heap.size, 0, none⟩) hzP _).setCell (p := ⟨w2.heap.size, 1, none⟩) hzP _).setCell (p := ⟨w2.heap.size, 2, none⟩) hzP _).setCell (p := ⟨w2.heap.size, 3, none⟩) hzP _).setCell (p := ⟨w2.heap.size, 4, none⟩) hzP _
      clear P4 X4 C4 P5 X5 C5 R4 hga hb5 B1 hg5
      go_upto_region 14 with fail
      obtain ⟨w6, hw6⟩ : ∃ w6, w6 = (((((w5.setCell ⟨w2.heap.size, 0, none⟩ (.bool a')).setCell ⟨w2.heap.size, 1, none⟩ (.bool r')).setCell ⟨w2.heap.size, 2, none⟩ (.int .i64 F')).setCell ⟨w2.heap.size, 3, none⟩ (.int .i64 W')).setCell ⟨w2.heap.size, 4, none⟩ (.slice (some ⟨b4, 0, none⟩) 9 c4)) := ⟨_, rfl⟩
      rw [← hw6] at P6 X6 C6 G6 ⊢
      clear hw6 q0 q1 q2 q3 q4 f0' f1 f2 f3 f4 hq p0 p1 p2 p3 p4 e0 e1 e2 e3 e4 hl
      obtain ⟨p0, p1, p2, p3, p4, e0, e1, e2, e3, e4, hl⟩ := id P6
      obtain ⟨q0, q1, q2, q3, q4, f0', f1, f2, f3, f4, hq⟩ := id X6
      have HP6 := Lib.hid P6
      have HX6 := Lib.hid X6
      have HC6 := Lib.hid C6
      clear P6 X6 C6
      have FA := fun w h => fac_run a' r' F' W' (some ⟨b4, 0, none⟩) c4 f g S C w _ h HV.out HPT.out rfl
      have hz := facV_bd F' f S C
      generalize facV F' f S C = z at FA hz
      replace FA := Lib.hid FA
      obtain ⟨z0, z1⟩ := hz
      have plain : a' = false ∨ (a' = true ∧ (k : Int) % (L + 1) ≠ 0) ∨ (a' = true ∧ (k : Int) % (L + 1) = 0) := by
        cases a'
        · exact .inl rfl
        · by_cases e : (k : Int) % (L + 1) = 0
          · exact .inr (.inr ⟨rfl, e⟩)
          · exact .inr (.inl ⟨rfl, e⟩)
      obtain ⟨R, hR⟩ : ∃ R, (k : Int) % (L + 1) = R := ⟨_, rfl⟩
      rw [hR] at plain
      have hL1 : 0 < L + 1 := by omega
      rcases plain with rfl | ⟨rfl, hRn⟩ | ⟨rfl, rfl⟩
      · clear hR
        go_wp2_with fail
        refine (FA.out _ HC6.out).mono ?_
        rintro x w7 ⟨rfl, hb7⟩
        have hg7 := chain G6 hb7
        have P7 := HP6.out.below hb7
        have C7 := HC6.out.below hb7
        clear p0 p1 p2 p3 p4 e0 e1 e2 e3 e4 q0 q1 q2 q3 q4 f0' f1 f2 f3 f4
        go_wp2_with fail
        all_goals
          go_roundg (n - (k + 1))
          case measure => omega
          case rel => exact ⟨k + 1, false, r', F', W', b4, c4, f, g, by omega, by omega, by go_num, P7, hn4, C7, hg7, HV.out⟩
      · have hRb : (R == 0) = false := by simp [hRn]
        go_wp2_with fail
        refine (FA.out _ HC6.out).mono ?_
        rintro x w7 ⟨rfl, hb7⟩
        have hg7 := chain G6 hb7
        have P7 := HP6.out.below hb7
        have C7 := HC6.out.below hb7
        clear p0 p1 p2 p3 p4 e0 e1 e2 e3 e4 q0 q1 q2 q3 q4 f0' f1 f2 f3 f4
        go_wp2_with fail
        all_goals
          go_roundg (n - (k + 1))
          case measure => omega
          case rel => exact ⟨k + 1, true, r', F', W', b4, c4, f, g, by omega, by omega, by go_num, P7, hn4, C7, hg7, HV.out⟩
      · have LR := Lib.hid (fun w h => learn_run r' F' W' (some ⟨b4, 0, none⟩) c4 f g kk w _ _ _ h HV.out hkl rfl rfl rfl)
        have HV2 := Lib.hid (lr_valid HV.out hkl)
        generalize lrF F' f kk = F2 at LR HV2
        generalize lrf F' f kk = ff at LR HV2
        generalize lrg g kk = gg at LR HV2
        clear FA z0 z1
        go_upto_region 15 with fail
        go_region_with (first
          | (go_at_call 26; refine (CL.out _).mono ?_; rintro x w7 ⟨rfl, hb7⟩; have P7 := (HP6.out.below (Below.refl _ _).drew).below hb7; obtain ⟨p0, p1, p2, p3, p4, e0, e1, e2, e3, e4, hl7⟩ := id P7)
          | (go_at_call 22; refine (LR.out _ ((HC6.out.below (Below.refl _ _).drew).below hb7)).mono ?_; rintro x w8 ⟨b8, c8, rfl, hb8a, hb8b, hc8, hb8⟩; have X8 := ((HX6.out.below (Below.refl _ _).drew).below hb7).below hb8; obtain ⟨q0, q1, q2, q3, q4, f0', f1, f2, f3, f4, hq8⟩ := id X8))
        all_goals
          have hg8 := chain (chain G6.drew hb7) hb8
          have s7 : w6.heap.size ≤ w7.heap.size := hb7.size
          have hn8 : b8 ≠ w2.heap.size := by omega
          have hn9 : b8 ≠ w4.heap.size := by omega
          have hzX : w.heap.size ≤ w4.heap.size := by omega
          have P8 := P7.below hb8
          have X9 := X8.store true r' F2 W' (some ⟨b8, 0, none⟩) 9 c8
          have C9 := hc8.stores hn9 (.bool true) (.bool r') (.int .i64 F2) (.int .i64 W') (.slice (some ⟨b8, 0, none⟩) 9 c8)
          have P9 := P8.fars (b := w4.heap.size) (Ne.symm hn5) (.bool true) (.bool r') (.int .i64 F2) (.int .i64 W') (.slice (some ⟨b8, 0, none⟩) 9 c8)
          have G9 : Below w.heap.size w (((((w8.setCell ⟨w4.heap.size, 0, none⟩ (.bool true)).setCell ⟨w4.heap.size, 1, none⟩ (.bool r')).setCell ⟨w4.heap.size, 2, none⟩ (.int .i64 F2)).setCell ⟨w4.heap.size, 3, none⟩ (.int .i64 W')).setCell ⟨w4.heap.size, 4, none⟩ (.slice (some ⟨b8, 0, none⟩) 9 c8)) := ((((hg8.setCell (p := ⟨w4.heap.size, 0, none⟩) hzX _).setCell (p := ⟨w4.heap.size, 1, none⟩) hzX _).setCell (p := ⟨w4.heap.size, 2, none⟩) hzX _).setCell (p := ⟨w4.heap.size, 3, none⟩) hzX _).setCell (p := ⟨w4.heap.size, 4, none⟩) hzX _
          clear P8 P7 X8 hg8 hb7 hb8 hc8 p0 p1 p2 p3 p4 e0 e1 e2 e3 e4 HP6 HX6 HC6 LR
          go_upto_region 16 with fail
          obtain ⟨w9, hw9⟩ : ∃ w9, w9 = (((((w8.setCell ⟨w4.heap.size, 0, none⟩ (.bool true)).setCell ⟨w4.heap.size, 1, none⟩ (.bool r')).setCell ⟨w4.heap.size, 2, none⟩ (.int .i64 F2)).setCell ⟨w4.heap.size, 3, none⟩ (.int .i64 W')).setCell ⟨w4.heap.size, 4, none⟩ (.slice (some ⟨b8, 0, none⟩) 9 c8)) := ⟨_, rfl⟩
          rw [← hw9] at X9 C9 P9 G9 ⊢
          clear hw9 q0 q1 q2 q3 q4 f0' f1 f2 f3 f4 hq8
          obtain ⟨q0, q1, q2, q3, q4, f0', f1, f2, f3, f4, hq9⟩ := id X9
          have B2 := Lib.hid (fun w h => valid16 true r' F2 W' (some ⟨b8, 0, none⟩) 9 c8 ff gg w h (by omega))
          rw [HV2.out] at B2
          have HX9 := Lib.hid X9
          have HP9 := Lib.hid P9
          clear X9 P9
          go_wp2_with fail
          refine (B2.out _ C9).mono ?_
          rintro x w10 ⟨rfl, hb10⟩
          have hg10 := chain G9 hb10
          have P10 := HP9.out.below hb10
          have X10 := HX9.out.below hb10
          have C10 := C9.below hb10
          clear q0 q1 q2 q3 q4 f0' f1 f2 f3 f4 hq9 HX9 HP9 C9 G9 hb10 B2
          obtain ⟨q0, q1, q2, q3, q4, _, _, _, _, _, hq10⟩ := X10
          obtain ⟨p0, p1, p2, p3, p4, e0, e1, e2, e3, e4, hl10⟩ := id P10
          have P11 := P10.store true r' F2 W' (some ⟨b8, 0, none⟩) 9 c8
          have C11 := C10.stores hn8 (.bool true) (.bool r') (.int .i64 F2) (.int .i64 W') (.slice (some ⟨b8, 0, none⟩) 9 c8)
          have G11 : Below w.heap.size w (((((w10.setCell ⟨w2.heap.size, 0, none⟩ (.bool true)).setCell ⟨w2.heap.size, 1, none⟩ (.bool r')).setCell ⟨w2.heap.size, 2, none⟩ (.int .i64 F2)).setCell ⟨w2.heap.size, 3, none⟩ (.int .i64 W')).setCell ⟨w2.heap.size, 4, none⟩ (.slice (some ⟨b8, 0, none⟩) 9 c8)) := ((((hg10.setCell (p := ⟨w2.heap.size, 0, none⟩) hzP _).setCell (p := ⟨w2.heap.size, 1, none⟩) hzP _).setCell (p := ⟨w2.heap.size, 2, none⟩) hzP _).setCell (p := ⟨w2.heap.size, 3, none⟩) hzP _).setCell (p := ⟨w2.heap.size, 4, none⟩) hzP _
          clear P10 C10
          go_upto_region 19 with fail
          obtain ⟨w11, hw11⟩ : ∃ w11, w11 = (((((w10.setCell ⟨w2.heap.size, 0, none⟩ (.bool true)).setCell ⟨w2.heap.size, 1, none⟩ (.bool r')).setCell ⟨w2.heap.size, 2, none⟩ (.int .i64 F2)).setCell ⟨w2.heap.size, 3, none⟩ (.int .i64 W')).setCell ⟨w2.heap.size, 4, none⟩ (.slice (some ⟨b8, 0, none⟩) 9 c8)) := ⟨_, rfl⟩
          rw [← hw11] at P11 C11 G11 ⊢
          clear hw11 q0 q1 q2 q3 q4 p0 p1 p2 p3 p4 e0 e1 e2 e3 e4 hl10 hg10
          obtain ⟨p0, p1, p2, p3, p4, e0, e1, e2, e3, e4, hl11⟩ := id P11
          have FB := fun w h => fac_run true r' F2 W' (some ⟨b8, 0, none⟩) c8 ff gg S C w _ h HV2.out HPT.out rfl
          have hz2 := facV_bd F2 ff S C
          generalize facV F2 ff S C = z2 at FB hz2
          replace FB := Lib.hid FB
          obtain ⟨z20, z21⟩ := hz2
          go_wp2_with fail
          refine (FB.out _ C11).mono ?_
          rintro x w12 ⟨rfl, hb12⟩
          have hg12 := chain G11 hb12
          have P12 := P11.below hb12
          have C12 := C11.below hb12
          clear p0 p1 p2 p3 p4 e0 e1 e2 e3 e4 FB P11 C11 G11 hb12
          go_wp2_with fail
          all_goals first | (exfalso; omega) | skip
          all_goals
            go_roundg (n - (k + 1))
            case measure => omega
            case rel => exact ⟨k + 1, true, r', F2, W', b8, c8, ff, gg, by omega, by omega, by go_num, P12, hn8, C12, hg12, HV2.out⟩
    · obtain rfl : k = n := by omega
      go_wp2
      go_ret
      exact ⟨rfl, hg⟩
theorem limits9 (A : Option Addr) (n cap : Nat) (f0 : Nat → Int) (L s c : Int) (w : World) (hs : Ints .u16 w A n f0) (hw : ∀ i, 0 ≤ f0 i ∧ f0 i ≤ 65535) (hL : 0 ≤ L ∧ L ≤ 255) (hs0 : 0 ≤ s ∧ s ≤ 4294967295) (hc0 : 0 ≤ c ∧ c ≤ 4294967295) :
    Calls Try.prog 9 #[.slice A n cap, .int .u8 L, .int .u32 s, .int .u32 c] w fun x w' => x = .returned (.bool true) ∧ Below w.heap.size w w' := by
  by_cases h : 200 < n
  · exact limits_out A n cap f0 L s c w h
  · exact limits_in A n cap f0 L s c w (by omega) hs hw hL hs0 hc0
end Go.Proofs.Ytemfjikiopcgpaa
