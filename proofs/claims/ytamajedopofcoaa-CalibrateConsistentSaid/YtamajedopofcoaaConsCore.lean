/-
  The law CalibrateConsistent. No condition but the slices' shape.
-/
import Derived.Test.YtamajedopofcoaaConsP
import Derived.Test.YtamajedopofcoaaAwk
import Derived.Test.YtamajedopofcoaaSame
set_option linter.unusedVariables false
set_option linter.unusedSimpArgs false
namespace Go.Proofs.Ytamajedopofcoaa
open Go.RowKit
set_option maxRecDepth 100000 in
set_option maxHeartbeats 16000000 in
theorem cons5_main (A : Option Addr) (n c : Nat) (A2 : Option Addr) (c2 : Nat) (Ac Pe : Int) (A3 : Option Addr) (m c3 : Nat) (R W : List Int) (ch : List (Int × Int)) (A4 : Option Addr) (n1 c4 : Nat) (l : List (Int × Int)) (pg : Int) (w : World) (hl : R.length = n) (hb : Ik .i64 w A R) (hc : n ≤ c) (hl2 : W.length = n) (hb2 : Ik .i64 w A2 W) (hc2 : n ≤ c2) (hl3 : ch.length = m) (hb3 : Ik .i64 w A3 (flat ch)) (hc3 : m ≤ c3) (hl4 : l.length = n1) (hb4 : Ik .i64 w A4 (flat l)) (hc4 : n1 ≤ c4) (hG : n ≤ 40 ∧ m ≤ 120 ∧ n1 ≤ 60) (hv : vP R W Ac Pe ch = true) (pg0 : 0 ≤ pg) (pg1 : pg ≤ 255) : Calls Try.prog 5 #[.agg #[.slice A n c, .slice A2 n c2, .int .i64 Ac, .int .i64 Pe, .slice A3 m c3], .slice A4 n1 c4, .int .u8 pg] w fun r w' => r = .returned (.bool true) ∧ Below w.heap.size w w' := by
  subst hl3
  obtain ⟨a1, a2, a3, a4, a5, a6, a7, a8, a9, a10⟩ := vP_t hv
  have hs : n ≤ 5000 := by omega
  have hn1 : 1 ≤ n := by omega
  have HCH : Hid (∀ (k : Nat) (p : Int × Int), ch[k]? = some p → 0 ≤ p.1 ∧ p.1 < (n : Int) ∧ parB p.2 = true) := Lib.hid (fun k p hp => by have := allC_at a8 hp; rw [hl] at this; exact this)
  have hm100 : ch.length ≤ 100 := a7
  have hn60 : n1 ≤ 60 := hG.2.2
  clear a1 a2 a3 a4 a5 a6 a7 a8 a9 a10
  have KV := fun w h h2 h3 => rvalid12 A n c A2 n c2 Ac Pe A3 ch.length c3 R W ch w hl h hc hl2 h2 hc2 rfl h3 hc3 hs hs (by omega)
  rw [hv] at KV
  obtain ⟨l0, hl0⟩ : ∃ l0, l0 = pgM R W Ac := ⟨_, rfl⟩
  have hl0n : l0.length = n := by rw [hl0, pgM_len (by omega), hl]
  have K26 := fun (X1 : Option Addr) (k1 : Nat) (X2 : Option Addr) (k2 : Nat) (Pe' : Int) (X3 : Option Addr) (k3 : Nat) (chq : List (Int × Int)) (hvq : vP R W Ac Pe' chq = true) w i1 e1 i2 e2 i3 e3 => read26 X1 n k1 X2 n k2 Ac Pe' X3 chq.length k3 R W chq w hl i1 e1 hl2 i2 e2 rfl i3 e3 hs hs (by have := (vP_t hvq).2.2.2.2.2.2.1; omega) hvq
  rw [← hl0] at K26
  have K27 := fun w h => clone27 A2 n c2 W w hl2 h (by omega) hc2
  have K15 := fun (X1 : Option Addr) (k1 : Nat) (X2 : Option Addr) (k2 : Nat) (X3 : Option Addr) (k3 : Nat) (chq : List (Int × Int)) (hvq : vP R W Ac Pe chq = true) x y w i1 e1 i2 e2 i3 e3 => wri15u X1 n k1 X2 n k2 Ac Pe X3 chq.length k3 R W chq x y w hl i1 e1 hl2 i2 e2 rfl i3 e3 hs hs (by have := (vP_t hvq).2.2.2.2.2.2.1; omega)
  have K17 := fun (X1 : Option Addr) (k1 : Nat) (X2 : Option Addr) (k2 : Nat) (X3 : Option Addr) (k3 : Nat) (chq : List (Int × Int)) (hvq : vP R W Ac Pe chq = true) g w i1 e1 i2 e2 i3 e3 => sel17u X1 n k1 X2 n k2 Ac Pe X3 chq.length k3 R W chq g w hl i1 e1 hl2 i2 e2 rfl i3 e3 hs hs (by have := (vP_t hvq).2.2.2.2.2.2.1; omega)
  have K19 := fun (X1 : Option Addr) (k1 : Nat) (X2 : Option Addr) (k2 : Nat) (Pe' : Int) (X3 : Option Addr) (k3 : Nat) (chq : List (Int × Int)) (hvq : vP R W Ac Pe' chq = true) w i1 e1 i2 e2 i3 e3 => com19u X1 n k1 X2 n k2 Ac Pe' X3 chq.length k3 R W chq w hl i1 e1 hl2 i2 e2 rfl i3 e3 hs hs (by have := (vP_t hvq).2.2.2.2.2.2.1; omega)
  have K28 := fun (X Y : Option Addr) (k1 k2 : Nat) (ll : List Int) w (hll : ll.length = n) h h2 e1 e2 => equal28 X Y n k1 k2 ll w hll h h2 e1 e2 hs
  replace KV := Lib.hid KV
  replace K26 := Lib.hid K26
  replace K27 := Lib.hid K27
  replace K15 := Lib.hid K15
  replace K17 := Lib.hid K17
  replace K19 := Lib.hid K19
  replace K28 := Lib.hid K28
  have HV := Lib.hid hv
  have HL := Lib.hid hl
  have HL2 := Lib.hid hl2
  have HL4 := Lib.hid hl4
  have HL0 := Lib.hid hl0
  have HL0N := Lib.hid hl0n
  have HB1 := Lib.hid hb
  have HB2 := Lib.hid hb2
  have HB3 := Lib.hid hb3
  have HB4 := Lib.hid hb4
  have d4 : decide (60 < (n1 : Int)) = false := by simp; omega
  have HP0 := Lib.hid (Cl.new (w := w) rfl [.slice A n c, .slice A2 n c2, .int .i64 Ac, .int .i64 Pe, .slice A3 ch.length c3] 25)
  have HG0 := Lib.hid (show Below w.heap.size w (w.alloc (.cells #[.slice A n c, .slice A2 n c2, .int .i64 Ac, .int .i64 Pe, .slice A3 ch.length c3] 25)) from (Below.refl _ _).alloc (Nat.le_refl _) _)
  have K7 := fun w => great7 A n c A2 n c2 Ac Pe A3 ch.length c3 R W ch w
  rw [show (decide (40 < n) || decide (40 < n) || decide (120 < ch.length)) = false by simp; omega] at K7
  replace K7 := Lib.hid K7
  clear hv hl hl2 hl4 hb hb2 hb3 hb4 hl0 hl0n hG
  go_enter Try.func5, Try.ntmps5
  go_wp2_with fail
  refine (awake6 _).mono ?_
  rintro r w1 ⟨rfl, hb1⟩
  have HP1 := Lib.hid (HP0.out.below hb1)
  have HG1 := Lib.hid (chain HG0.out hb1)
  clear hb1 HP0 HG0
  have p0 := HP1.out.c 0 rfl
  have p1 := HP1.out.c 1 rfl
  have p2 := HP1.out.c 2 rfl
  have p3 := HP1.out.c 3 rfl
  have p4 := HP1.out.c 4 rfl
  have zp := HP1.out.1
  go_wp2_with fail
  refine (K7.out _).mono ?_
  rintro r w2 ⟨rfl, hb2⟩
  have HP2 := Lib.hid (HP1.out.below hb2)
  have HG2 := Lib.hid (chain HG1.out hb2)
  clear hb2 HP1 HG1 K7 p0 p1 p2 p3 p4 zp
  have p0 := HP2.out.c 0 rfl
  have p1 := HP2.out.c 1 rfl
  have p2 := HP2.out.c 2 rfl
  have p3 := HP2.out.c 3 rfl
  have p4 := HP2.out.c 4 rfl
  have zp := HP2.out.1
  go_wp2_with fail
  refine (KV.out _ (HB1.out.below HG2.out) (HB2.out.below HG2.out) (HB3.out.below HG2.out)).mono ?_
  rintro r w3 ⟨rfl, hb3⟩
  have HP3 := Lib.hid (HP2.out.below hb3)
  have HG3 := Lib.hid (chain HG2.out hb3)
  clear hb3 HP2 HG2 KV p0 p1 p2 p3 p4 zp
  have p0 := HP3.out.c 0 rfl
  have p1 := HP3.out.c 1 rfl
  have p2 := HP3.out.c 2 rfl
  have p3 := HP3.out.c 3 rfl
  have p4 := HP3.out.c 4 rfl
  have zp := HP3.out.1
  go_wp2_with fail
  refine (K26.out _ _ _ _ _ _ _ ch HV.out _ (HB1.out.below HG3.out) hc (HB2.out.below HG3.out) hc2 (HB3.out.below HG3.out) hc3).mono ?_
  rintro r w4 ⟨v, rfl, ho, hb4⟩
  have ho' : w4.ownsRow w3.heap.size 3 1 v n (l0.map (Value.int .i64)) := by rw [← HL0N.out]; exact ho
  obtain ⟨B, cB, rfl, hcB, _, hBi, hBf, hBl⟩ := own_it ho'
  have HP4 := Lib.hid (HP3.out.below hb4)
  have HG4 := Lib.hid (chain HG3.out hb4)
  have HBi := Lib.hid hBi
  clear hb4 HP3 HG3 p0 p1 p2 p3 p4 zp ho ho' hBi hBf
  have p0 := HP4.out.c 0 rfl
  have p1 := HP4.out.c 1 rfl
  have p2 := HP4.out.c 2 rfl
  have p3 := HP4.out.c 3 rfl
  have p4 := HP4.out.c 4 rfl
  have zp := HP4.out.1
  go_wp2_with fail
  refine (K27.out _ (HB2.out.below HG4.out)).mono ?_
  rintro r w5 ⟨v, rfl, ho, hb5⟩
  have ho' : w5.ownsRow w4.heap.size 3 1 v n (W.map (Value.int .i64)) := by rw [← HL2.out]; exact ho
  obtain ⟨G, cG, rfl, hGb, hGl, hcG, _, _⟩ := own_form ho' (by omega)
  have CG := own_cl ho' (by omega)
  have HP5 := Lib.hid (HP4.out.below hb5)
  have HG5 := Lib.hid (chain HG4.out hb5)
  have HBi5 := Lib.hid (HBi.out.below hb5)
  have HCG5 := Lib.hid CG
  have hBG : ∀ b o, B = some ⟨b, o, none⟩ → b < G := fun b o e => by have := hBl b o e; omega
  have HBG := Lib.hid hBG
  have hPG : w.heap.size ≠ G := by have := HP4.out.1; omega
  have hGw : w.heap.size ≤ G := by have := HP4.out.1; omega
  have hGP : G ≠ w.heap.size := by omega
  clear hb5 HP4 HG4 p0 p1 p2 p3 p4 zp ho ho' HBi CG hBG K27 hBl
  have p0 := HP5.out.c 0 rfl
  have p1 := HP5.out.c 1 rfl
  have p2 := HP5.out.c 2 rfl
  have p3 := HP5.out.c 3 rfl
  have p4 := HP5.out.c 4 rfl
  have zp := HP5.out.1
  go_upto_region 9 with fail
  clear p0 p1 p2 p3 p4 zp
  go_loopg [42] ch.length (fun gk v wr => ∃ k : Nat, k ≤ ch.length ∧ ch.length - k ≤ gk ∧ v = .int .i64 k ∧ Cl G wr ((apC W (ch.take k)).map (Value.int .i64)) ∧ Cl w.heap.size wr [.slice A n c, .slice A2 n c2, .int .i64 Ac, .int .i64 Pe, .slice A3 ch.length c3] ∧ Ik .i64 wr B l0 ∧ Below w.heap.size w wr)
  case atStart => exact ⟨0, by omega, by omega, rfl, HCG5.out, HP5.out, HBi5.out, HG5.out⟩
  case round =>
    clear HCG5 HP5 HBi5 HG5
    obtain ⟨k, hk, hgk, rfl, hG, hP, hB, hg⟩ := hrel
    by_cases hkl : k < ch.length
    · obtain ⟨b3', o3, rfl, hbl3⟩ := HB3.out.addr (by rw [flat_len]; omega)
      obtain ⟨p, hp⟩ : ∃ p, ch[k]? = some p := ⟨_, List.getElem?_eq_getElem hkl⟩
      obtain ⟨u1, u2⟩ := flat_get ch k p hp
      obtain ⟨f1, f2, f3⟩ := HCH.out k p hp
      have hta := apC_take (W := W) hp
      obtain ⟨x, y⟩ := p
      simp only at f1 f2 hta u1 u2
      obtain ⟨a, rfl⟩ : ∃ a : Nat, x = a := ⟨x.toNat, by omega⟩
      rw [Int.toNat_natCast] at hta
      have han : a < n := by omega
      obtain ⟨b', o', e', _, hcell⟩ := (HB3.out.below hg) (by rw [flat_len]; omega)
      injection e' with e'; injection e' with e1 e2'
      subst e1; subst e2'
      have s1 := hcell _ _ u1
      have s2 := hcell _ _ u2
      rw [← Nat.add_assoc] at s2
      have hWl : a < (apC W (ch.take k)).length := by rw [apC_len, HL2.out]; exact han
      obtain ⟨s3, s4⟩ := hG.2 a _ (by rw [List.getElem?_map, List.getElem?_eq_getElem hWl]; rfl)
      obtain ⟨old, hold⟩ : ∃ old, old = (apC W (ch.take k))[a] := ⟨_, rfl⟩
      rw [← hold] at s3
      have HTA := Lib.hid hta
      have HG := Lib.hid hG
      have HP := Lib.hid hP
      have HBi := Lib.hid hB
      have HGG := Lib.hid hg
      have hgr := hG.1
      have haw : (a : Int) < (n : Int) := by omega
      clear hp u1 u2 f1 f2 f3 hta hcell hWl hold hG hP hB hg
      go_wp2_with fail
      go_roundg (ch.length - (k + 1))
      case measure => omega
      case rel =>
        have al : Below (wr.setCell ⟨G, a, none⟩ (.int .i64 y)).heap.size (wr.setCell ⟨G, a, none⟩ (.int .i64 y)) ((wr.setCell ⟨G, a, none⟩ (.int .i64 y)).alloc (.cells #[.int .i64 a, .int .i64 y] 56)) := (Below.refl _ _).alloc (Nat.le_refl _) _
        exact ⟨k + 1, by omega, by omega, by go_num, by rw [HTA.out]; exact (HG.out.seti a y).below al, (HP.out.far hGP a _).below al, (HBi.out.set G (fun b o e => by have := HBG.out b o e; omega) a _).below al, chain (HGG.out.setCell (p := ⟨G, a, none⟩) hGw _) al⟩
    · obtain rfl : k = ch.length := by omega
      rw [List.take_length] at hG
      have HG := Lib.hid hG
      have HP := Lib.hid hP
      have HBi := Lib.hid hB
      have HGG := Lib.hid hg
      clear hG hP hB hg
      have hgr : G < wr.heap.size := HG.out.1
      have p0 := HP.out.c 0 rfl
      have p1 := HP.out.c 1 rfl
      have p2 := HP.out.c 2 rfl
      have p3 := HP.out.c 3 rfl
      have p4 := HP.out.c 4 rfl
      have zp := HP.out.1
      go_upto_region 15 with fail
      clear p0 p1 p2 p3 p4 zp
      obtain ⟨u0, hu⟩ : ∃ u, u = wr.alloc (.cells #[.slice A n c, .slice A2 n c2, .int .i64 Ac, .int .i64 Pe, .slice A3 ch.length c3] 25) := ⟨_, rfl⟩
      obtain ⟨Q, hQ⟩ : ∃ Q, Q = wr.heap.size := ⟨_, rfl⟩
      have al : Below wr.heap.size wr u0 := by rw [hu]; exact (Below.refl _ _).alloc (Nat.le_refl _) _
      have HQ0 : Hid (Cl Q u0 [.slice A n c, .slice A2 n c2, .int .i64 Ac, .int .i64 Pe, .slice A3 ch.length c3]) := Lib.hid (by rw [hu]; exact Cl.new hQ _ 25)
      have hGQ : G < Q := by omega
      have hQw : w.heap.size ≤ Q := by omega
      have HG0 := Lib.hid (HG.out.below al)
      have HP0 := Lib.hid (HP.out.below al)
      have HGG0 := Lib.hid (chain HGG.out al)
      have HX1 := Lib.hid (Ix.lo (G := G) (Q := Q) (HB1.out.below HGG0.out) HB1.out hGw hQw)
      have HX2 := Lib.hid (Ix.lo (G := G) (Q := Q) (HB2.out.below HGG0.out) HB2.out hGw hQw)
      have HX3 := Lib.hid (Ix.lo (G := G) (Q := Q) (HB3.out.below HGG0.out) HB3.out hGw hQw)
      have HBx : Hid (Ix G Q u0 B l0) := Lib.hid ⟨HBi.out.below al, fun _ b o e => by have := HBG.out b o e; omega⟩
      have hPQ : w.heap.size ≠ Q := by have := HP.out.1; omega
      rw [← hu, ← hQ]
      clear hu hQ al HG HP HBi HGG hgr
      go_loopg [56] n1 (fun gk v wr => ∃ j : Nat, j ≤ n1 ∧ n1 - j ≤ gk ∧ v = .int .i64 j ∧ ∃ (X1 : Option Addr) (k1 : Nat) (X2 : Option Addr) (k2 : Nat) (X3 : Option Addr) (k3 : Nat) (chq : List (Int × Int)), n ≤ k1 ∧ n ≤ k2 ∧ chq.length ≤ k3 ∧ vP R W Ac Pe chq = true ∧ Cl Q wr [.slice X1 n k1, .slice X2 n k2, .int .i64 Ac, .int .i64 Pe, .slice X3 chq.length k3] ∧ (Ix G Q wr X1 R ∧ Ix G Q wr X2 W ∧ Ix G Q wr X3 (flat chq)) ∧ Cl G wr ((apC W chq).map (Value.int .i64)) ∧ Cl w.heap.size wr [.slice A n c, .slice A2 n c2, .int .i64 Ac, .int .i64 Pe, .slice A3 ch.length c3] ∧ Ix G Q wr B l0 ∧ Below w.heap.size w wr)
      case atStart => exact ⟨0, by omega, by omega, rfl, A, c, A2, c2, A3, c3, ch, hc, hc2, hc3, HV.out, HQ0.out, ⟨HX1.out, HX2.out, HX3.out⟩, HG0.out, HP0.out, HBx.out, HGG0.out⟩
      case round =>
        clear HQ0 HG0 HP0 HGG0 HX1 HX2 HX3 HBx
        obtain ⟨j, hj, hgk, rfl, X1, k1, X2, k2, X3, k3, chq, hk1, hk2, hk3, hvq, hQ, hX, hG, hP, hB, hg⟩ := hrel
        have HVQ := Lib.hid hvq
        have HQ := Lib.hid hQ
        have HX := Lib.hid hX
        have HG := Lib.hid hG
        have HP := Lib.hid hP
        have HBx := Lib.hid hB
        have HGG := Lib.hid hg
        have hgr : G < wr.heap.size := hG.1
        have hqr : Q < wr.heap.size := hQ.1
        clear hvq hQ hX hG hP hB hg
        by_cases hjl : j < n1
        · obtain ⟨b4', o4, rfl, hbl4⟩ := HB4.out.addr (by rw [flat_len, HL4.out]; omega)
          have hjp : j < l.length := by rw [HL4.out]; exact hjl
          obtain ⟨p, hp⟩ : ∃ p, l[j]? = some p := ⟨_, List.getElem?_eq_getElem hjp⟩
          obtain ⟨u1, u2⟩ := flat_get l j p hp
          obtain ⟨x, y⟩ := p
          obtain ⟨b', o', e', _, hcell⟩ := (HB4.out.below HGG.out) (by rw [flat_len]; omega)
          injection e' with e'; injection e' with e1 e2'
          subst e1; subst e2'
          have s1 := hcell _ _ u1
          have s2 := hcell _ _ u2
          rw [← Nat.add_assoc] at s2
          simp only at s1 s2
          clear hcell u1 u2 hp hjp
          have al : Below wr.heap.size wr (wr.alloc (.cells #[.int .i64 x, .int .i64 y] 56)) := (Below.refl _ _).alloc (Nat.le_refl _) _
          have p0 := HQ.out.c 0 rfl
          have p1 := HQ.out.c 1 rfl
          have p2 := HQ.out.c 2 rfl
          have p3 := HQ.out.c 3 rfl
          have p4 := HQ.out.c 4 rfl
          have zp := HQ.out.1
          have K := fun w i1 i2 i3 => K15.out X1 k1 X2 k2 X3 k3 chq HVQ.out x y w i1 hk1 i2 hk2 i3 hk3
          by_cases hok : (0 ≤ x ∧ x < (n : Int) ∧ parB y = true) ∧ ¬ chq.length = 100
          · have hM := wriM_ok HVQ.out (by rw [HL.out]; exact hok.1) hok.2
            have hvn := vP_wri HVQ.out hok.1.1 (by rw [HL.out]; exact hok.1.2.1) hok.1.2.2 hok.2
            have hap := apC_snoc W chq (x, y)
            obtain ⟨chn, hchn⟩ : ∃ chn, chn = chq ++ [(x, y)] := ⟨_, rfl⟩
            rw [hM] at K
            rw [← hchn] at K hvn hap
            simp only at K hap
            obtain ⟨a, rfl⟩ : ∃ a : Nat, x = a := ⟨x.toNat, by omega⟩
            rw [Int.toNat_natCast] at hap
            have haw : (a : Int) < (n : Int) := hok.1.2.1
            have han : a < n := by omega
            have HAP := Lib.hid hap
            have HVN := Lib.hid hvn
            replace K := Lib.hid K
            clear hM hvn hap hchn hok
            go_wp2_with fail
            refine (K.out _ (HX.out.1.1.below al) (HX.out.2.1.1.below al) (HX.out.2.2.1.below al)).mono ?_
            rintro r w1 h
            obtain ⟨Y1, d1, Y2, d2, Y3, d3, rfl, hd1, hd2, hd3, i1, i2, i3, f1, f2, f3, hb⟩ := PO.at h n n chn.length HL.out HL2.out rfl
            have hb' := chain al hb
            have hbz := al.size
            have HY : Hid (Ix G Q w1 Y1 R ∧ Ix G Q w1 Y2 W ∧ Ix G Q w1 Y3 (flat chn)) := Lib.hid ⟨Ix.fr i1 f1 (by omega) (by omega), Ix.fr i2 f2 (by omega) (by omega), Ix.fr i3 f3 (by omega) (by omega)⟩
            replace HQ := Lib.hid (HQ.out.below hb')
            replace HG := Lib.hid (HG.out.below hb')
            replace HP := Lib.hid (HP.out.below hb')
            replace HBx := Lib.hid (HBx.out.below hb')
            replace HGG := Lib.hid (chain HGG.out hb')
            have t1 : w1.cell? ⟨wr.heap.size, 0, none⟩ = some (.int .i64 a) := ((bcell hb).1 wr.heap.size 0 (by simp)).trans (by simp)
            have t2 : w1.cell? ⟨wr.heap.size, 1, none⟩ = some (.int .i64 y) := ((bcell hb).1 wr.heap.size 1 (by simp)).trans (by simp)
            have hwl : wr.heap.size < w1.heap.size := by have := hb.size; simp at this; omega
            have hgr1 : G < w1.heap.size := HG.out.1
            have hqr1 : Q < w1.heap.size := HQ.out.1
            have hWl : a < (apC W chq).length := by rw [apC_len, HL2.out]; exact han
            obtain ⟨s3, s4⟩ := HG.out.2 a _ (by rw [List.getElem?_map, List.getElem?_eq_getElem hWl]; rfl)
            obtain ⟨old, hold⟩ : ∃ old, old = (apC W chq)[a] := ⟨_, rfl⟩
            rw [← hold] at s3
            clear p0 p1 p2 p3 p4 zp al h i1 i2 i3 f1 f2 f3 hb hb' hbz K hold hWl s1 s2 HX
            have p0 := HQ.out.c 0 rfl
            have p1 := HQ.out.c 1 rfl
            have p2 := HQ.out.c 2 rfl
            have p3 := HQ.out.c 3 rfl
            have p4 := HQ.out.c 4 rfl
            have q0 := HQ.out.f 0 rfl
            have q1 := HQ.out.f 1 rfl
            have q2 := HQ.out.f 2 rfl
            have q3 := HQ.out.f 3 rfl
            have q4 := HQ.out.f 4 rfl
            have zp := HQ.out.1
            go_upto_region 23 with fail
            clear p0 p1 p2 p3 p4 q0 q1 q2 q3 q4 zp s3 s4 t1 t2
            obtain ⟨u1, hu⟩ : ∃ u, u = (((((((w1).setCell ⟨Q, 0, none⟩ (.slice Y1 n d1)).setCell ⟨Q, 1, none⟩ (.slice Y2 n d2)).setCell ⟨Q, 2, none⟩ (.int .i64 Ac)).setCell ⟨Q, 3, none⟩ (.int .i64 Pe)).setCell ⟨Q, 4, none⟩ (.slice Y3 chn.length d3))).setCell ⟨G, a, none⟩ (.int .i64 y) := ⟨_, rfl⟩
            have HQ1 : Cl Q u1 [.slice Y1 n d1, .slice Y2 n d2, .int .i64 Ac, .int .i64 Pe, .slice Y3 chn.length d3] := by rw [hu]; exact (HQ.out.set5 _ _ _ _ _).far (by omega) _ _
            have HP1 : Cl w.heap.size u1 [.slice A n c, .slice A2 n c2, .int .i64 Ac, .int .i64 Pe, .slice A3 ch.length c3] := by rw [hu]; exact (HP.out.far5 (by omega) _ _ _ _ _).far hGP _ _
            have HG1 : Cl G u1 ((apC W chn).map (Value.int .i64)) := by rw [hu, HAP.out]; exact (HG.out.far5 (by omega) _ _ _ _ _).seti a y
            have HB1x : Ix G Q u1 B l0 := by rw [hu]; exact (HBx.out.setQ5 _ _ _ _ _).setG _ _
            have HY1 : Ix G Q u1 Y1 R ∧ Ix G Q u1 Y2 W ∧ Ix G Q u1 Y3 (flat chn) := by rw [hu]; exact ⟨(HY.out.1.setQ5 _ _ _ _ _).setG _ _, (HY.out.2.1.setQ5 _ _ _ _ _).setG _ _, (HY.out.2.2.setQ5 _ _ _ _ _).setG _ _⟩
            have HGG1 : Below w.heap.size w u1 := by rw [hu]; exact (below_set5 HGG.out hQw _ _ _ _ _).setCell (p := ⟨G, a, none⟩) hGw _
            rw [← hu]
            obtain ⟨u2, hu2⟩ : ∃ u, u = u1.alloc (.cells #[.slice Y1 n d1, .slice Y2 n d2, .int .i64 Ac, .int .i64 Pe, .slice Y3 chn.length d3] 25) := ⟨_, rfl⟩
            have al2 : Below u1.heap.size u1 u2 := by rw [hu2]; exact (Below.refl _ _).alloc (Nat.le_refl _) _
            rw [← hu2]
            replace HQ := Lib.hid (HQ1.below al2)
            replace HP := Lib.hid (HP1.below al2)
            replace HG := Lib.hid (HG1.below al2)
            replace HBx := Lib.hid (HB1x.below al2)
            replace HGG := Lib.hid (chain HGG1 al2)
            replace HY := Lib.hid (And.intro (HY1.1.below al2) (And.intro (HY1.2.1.below al2) (HY1.2.2.below al2)))
            clear hu hu2 al2 HQ1 HP1 HG1 HB1x HY1 HGG1 HAP
            have p0 := HQ.out.c 0 rfl
            have p1 := HQ.out.c 1 rfl
            have p2 := HQ.out.c 2 rfl
            have p3 := HQ.out.c 3 rfl
            have p4 := HQ.out.c 4 rfl
            have zp := HQ.out.1
            go_wp2_with fail
            refine (K26.out Y1 d1 Y2 d2 Pe Y3 d3 chn HVN.out _ HY.out.1.1 hd1 HY.out.2.1.1 hd2 HY.out.2.2.1 hd3).mono ?_
            rintro r w3 ⟨v, rfl, ho, hb⟩
            have ho' : w3.ownsRow u2.heap.size 3 1 v n (l0.map (Value.int .i64)) := by rw [← HL0N.out]; exact ho
            obtain ⟨E, cE, rfl, hcE, _, hEi, _, _⟩ := own_it ho'
            have HEi := Lib.hid hEi
            replace HQ := Lib.hid (HQ.out.below hb)
            replace HP := Lib.hid (HP.out.below hb)
            replace HG := Lib.hid (HG.out.below hb)
            replace HBx := Lib.hid (HBx.out.below hb)
            replace HGG := Lib.hid (chain HGG.out hb)
            replace HY := Lib.hid (And.intro (HY.out.1.below hb) (And.intro (HY.out.2.1.below hb) (HY.out.2.2.below hb)))
            clear ho ho' hEi hb p0 p1 p2 p3 p4 zp
            go_wp2_with fail
            refine (K28.out _ _ _ _ l0 _ HL0N.out HEi.out HBx.out.1 hcE hcB).mono ?_
            rintro r w4 ⟨rfl, hb⟩
            replace HQ := Lib.hid (HQ.out.below hb)
            replace HP := Lib.hid (HP.out.below hb)
            replace HG := Lib.hid (HG.out.below hb)
            replace HBx := Lib.hid (HBx.out.below hb)
            replace HGG := Lib.hid (chain HGG.out hb)
            replace HY := Lib.hid (And.intro (HY.out.1.below hb) (And.intro (HY.out.2.1.below hb) (HY.out.2.2.below hb)))
            clear hb HEi
            go_wp2_with fail
            go_roundg (n1 - (j + 1))
            case measure => omega
            case rel => exact ⟨j + 1, by omega, by omega, by go_num, Y1, d1, Y2, d2, Y3, d3, chn, hd1, hd2, hd3, HVN.out, HQ.out, HY.out, HG.out, HP.out, HBx.out, HGG.out⟩
          · rcases wriM_no HVQ.out (x := x) (y := y) (by rw [HL.out]; exact hok) with hM | hM
            · rw [hM] at K
              simp only at K
              replace K := Lib.hid K
              clear hM hok
              go_wp2_with fail
              refine (K.out _ (HX.out.1.1.below al) (HX.out.2.1.1.below al) (HX.out.2.2.1.below al)).mono ?_
              rintro r w1 h
              obtain ⟨Y1, d1, Y2, d2, Y3, d3, rfl, hd1, hd2, hd3, i1, i2, i3, f1, f2, f3, hb⟩ := PO.at (show PO ⟨[], [], 0, 0, []⟩ _ _ _ _ from h) 0 0 0 rfl rfl rfl
              have al3 : Below w1.heap.size w1 (w1.alloc (.cells #[.slice Y1 0 d1, .slice Y2 0 d2, .int .i64 0, .int .i64 0, .slice Y3 0 d3] 25)) := (Below.refl _ _).alloc (Nat.le_refl _) _
              have hb' := chain (chain al hb) al3
              replace HQ := Lib.hid (HQ.out.below hb')
              replace HG := Lib.hid (HG.out.below hb')
              replace HP := Lib.hid (HP.out.below hb')
              replace HBx := Lib.hid (HBx.out.below hb')
              replace HGG := Lib.hid (chain HGG.out hb')
              replace HX := Lib.hid (And.intro (HX.out.1.below hb') (And.intro (HX.out.2.1.below hb') (HX.out.2.2.below hb')))
              clear p0 p1 p2 p3 p4 zp al h i1 i2 i3 f1 f2 f3 hb hb' al3 K s1 s2
              go_wp2_with fail
              go_roundg (n1 - (j + 1))
              case measure => omega
              case rel => exact ⟨j + 1, by omega, by omega, by go_num, X1, k1, X2, k2, X3, k3, chq, hk1, hk2, hk3, HVQ.out, HQ.out, HX.out, HG.out, HP.out, HBx.out, HGG.out⟩
            · rw [hM] at K
              simp only at K
              replace K := Lib.hid K
              clear hM hok
              go_wp2_with fail
              refine (K.out _ (HX.out.1.1.below al) (HX.out.2.1.1.below al) (HX.out.2.2.1.below al)).mono ?_
              rintro r w1 h
              obtain ⟨Y1, d1, Y2, d2, Y3, d3, rfl, hd1, hd2, hd3, i1, i2, i3, f1, f2, f3, hb⟩ := PO.at (show PO ⟨[], [], 0, 0, []⟩ _ _ _ _ from h) 0 0 0 rfl rfl rfl
              have al3 : Below w1.heap.size w1 (w1.alloc (.cells #[.slice Y1 0 d1, .slice Y2 0 d2, .int .i64 0, .int .i64 0, .slice Y3 0 d3] 25)) := (Below.refl _ _).alloc (Nat.le_refl _) _
              have hb' := chain (chain al hb) al3
              replace HQ := Lib.hid (HQ.out.below hb')
              replace HG := Lib.hid (HG.out.below hb')
              replace HP := Lib.hid (HP.out.below hb')
              replace HBx := Lib.hid (HBx.out.below hb')
              replace HGG := Lib.hid (chain HGG.out hb')
              replace HX := Lib.hid (And.intro (HX.out.1.below hb') (And.intro (HX.out.2.1.below hb') (HX.out.2.2.below hb')))
              clear p0 p1 p2 p3 p4 zp al h i1 i2 i3 f1 f2 f3 hb hb' al3 K s1 s2
              go_wp2_with fail
              go_roundg (n1 - (j + 1))
              case measure => omega
              case rel => exact ⟨j + 1, by omega, by omega, by go_num, X1, k1, X2, k2, X3, k3, chq, hk1, hk2, hk3, HVQ.out, HQ.out, HX.out, HG.out, HP.out, HBx.out, HGG.out⟩
        · obtain rfl : j = n1 := by omega
          rcases (by omega : pg % 2 = 0 ∨ pg % 2 = 1) with hgg | hgg
          · have hg01 : (0 : Int) = 0 ∨ (0 : Int) = 1 := by omega
            have K := fun w i1 i2 i3 => K17.out X1 k1 X2 k2 X3 k3 chq HVQ.out 0 w i1 hk1 i2 hk2 i3 hk3
            rw [selM_ok HVQ.out hg01] at K
            simp only at K
            replace K := Lib.hid K
            replace HVQ := Lib.hid (vP_sel HVQ.out hg01)
            have hcq : chq.length ≤ 5000 := by have := (vP_t HVQ.out).2.2.2.2.2.2.1; omega
            have HVC := Lib.hid (vP_com HVQ.out hg01)
            clear hg01
            have p0 := HQ.out.c 0 rfl
            have p1 := HQ.out.c 1 rfl
            have p2 := HQ.out.c 2 rfl
            have p3 := HQ.out.c 3 rfl
            have p4 := HQ.out.c 4 rfl
            have q0 := HQ.out.f 0 rfl
            have q1 := HQ.out.f 1 rfl
            have q2 := HQ.out.f 2 rfl
            have q3 := HQ.out.f 3 rfl
            have q4 := HQ.out.f 4 rfl
            have zp := HQ.out.1
            go_wp2_with fail
            refine (K.out _ HX.out.1.1 HX.out.2.1.1 HX.out.2.2.1).mono ?_
            rintro r w1 h
            obtain ⟨Y1, d1, Y2, d2, Y3, d3, rfl, hd1, hd2, hd3, i1, i2, i3, f1, f2, f3, hb⟩ := PO.at h n n chq.length HL.out HL2.out rfl
            have HY : Hid (Ix G Q w1 Y1 R ∧ Ix G Q w1 Y2 W ∧ Ix G Q w1 Y3 (flat chq)) := Lib.hid ⟨Ix.fr i1 f1 (by omega) (by omega), Ix.fr i2 f2 (by omega) (by omega), Ix.fr i3 f3 (by omega) (by omega)⟩
            replace HQ := Lib.hid (HQ.out.below hb)
            replace HP := Lib.hid (HP.out.below hb)
            replace HG := Lib.hid (HG.out.below hb)
            replace HBx := Lib.hid (HBx.out.below hb)
            replace HGG := Lib.hid (chain HGG.out hb)
            clear p0 p1 p2 p3 p4 q0 q1 q2 q3 q4 zp h i1 i2 i3 f1 f2 f3 hb K HX
            have hqr1 : Q < w1.heap.size := HQ.out.1
            have p0 := HQ.out.c 0 rfl
            have p1 := HQ.out.c 1 rfl
            have p2 := HQ.out.c 2 rfl
            have p3 := HQ.out.c 3 rfl
            have p4 := HQ.out.c 4 rfl
            have q0 := HQ.out.f 0 rfl
            have q1 := HQ.out.f 1 rfl
            have q2 := HQ.out.f 2 rfl
            have q3 := HQ.out.f 3 rfl
            have q4 := HQ.out.f 4 rfl
            have zp := HQ.out.1
            go_upto_region 27 with fail
            obtain ⟨u1, hu⟩ : ∃ u, u = ((((((w1).setCell ⟨Q, 0, none⟩ (.slice Y1 n d1)).setCell ⟨Q, 1, none⟩ (.slice Y2 n d2)).setCell ⟨Q, 2, none⟩ (.int .i64 Ac)).setCell ⟨Q, 3, none⟩ (.int .i64 0)).setCell ⟨Q, 4, none⟩ (.slice Y3 chq.length d3)) := ⟨_, rfl⟩
            replace HQ : Hid (Cl Q u1 [.slice Y1 n d1, .slice Y2 n d2, .int .i64 Ac, .int .i64 0, .slice Y3 chq.length d3]) := Lib.hid (by rw [hu]; exact HQ.out.set5 _ _ _ _ _)
            replace HP : Hid (Cl w.heap.size u1 [.slice A n c, .slice A2 n c2, .int .i64 Ac, .int .i64 Pe, .slice A3 ch.length c3]) := Lib.hid (by rw [hu]; exact HP.out.far5 (by omega) _ _ _ _ _)
            replace HG : Hid (Cl G u1 ((apC W chq).map (Value.int .i64))) := Lib.hid (by rw [hu]; exact HG.out.far5 (by omega) _ _ _ _ _)
            replace HBx : Hid (Ix G Q u1 B l0) := Lib.hid (by rw [hu]; exact HBx.out.setQ5 _ _ _ _ _)
            replace HY : Hid (Ix G Q u1 Y1 R ∧ Ix G Q u1 Y2 W ∧ Ix G Q u1 Y3 (flat chq)) := Lib.hid (by rw [hu]; exact ⟨HY.out.1.setQ5 _ _ _ _ _, HY.out.2.1.setQ5 _ _ _ _ _, HY.out.2.2.setQ5 _ _ _ _ _⟩)
            replace HGG : Hid (Below w.heap.size w u1) := Lib.hid (by rw [hu]; exact below_set5 HGG.out hQw _ _ _ _ _)
            rw [← hu]
            clear hu p0 p1 p2 p3 p4 q0 q1 q2 q3 q4 zp
            have p0 := HQ.out.c 0 rfl
            have p1 := HQ.out.c 1 rfl
            have p2 := HQ.out.c 2 rfl
            have p3 := HQ.out.c 3 rfl
            have p4 := HQ.out.c 4 rfl
            have zp := HQ.out.1
            go_wp2_with fail
            refine (K26.out Y1 d1 Y2 d2 0 Y3 d3 chq HVQ.out _ HY.out.1.1 hd1 HY.out.2.1.1 hd2 HY.out.2.2.1 hd3).mono ?_
            rintro r w3 ⟨v, rfl, ho, hb⟩
            have ho' : w3.ownsRow u1.heap.size 3 1 v n (l0.map (Value.int .i64)) := by rw [← HL0N.out]; exact ho
            obtain ⟨E, cE, rfl, hcE, _, hEi, _, _⟩ := own_it ho'
            have HEi := Lib.hid hEi
            replace HQ := Lib.hid (HQ.out.below hb)
            replace HP := Lib.hid (HP.out.below hb)
            replace HG := Lib.hid (HG.out.below hb)
            replace HBx := Lib.hid (HBx.out.below hb)
            replace HGG := Lib.hid (chain HGG.out hb)
            replace HY := Lib.hid (And.intro (HY.out.1.below hb) (And.intro (HY.out.2.1.below hb) (HY.out.2.2.below hb)))
            clear ho ho' hEi hb p0 p1 p2 p3 p4 zp
            go_wp2_with fail
            refine (K28.out _ _ _ _ l0 _ HL0N.out HEi.out HBx.out.1 hcE hcB).mono ?_
            rintro r w4 ⟨rfl, hb⟩
            replace HQ := Lib.hid (HQ.out.below hb)
            replace HP := Lib.hid (HP.out.below hb)
            replace HG := Lib.hid (HG.out.below hb)
            replace HBx := Lib.hid (HBx.out.below hb)
            replace HGG := Lib.hid (chain HGG.out hb)
            replace HY := Lib.hid (And.intro (HY.out.1.below hb) (And.intro (HY.out.2.1.below hb) (HY.out.2.2.below hb)))
            clear hb HEi
            have r0 := HP.out.c 0 rfl
            have r1 := HP.out.c 1 rfl
            have r2 := HP.out.c 2 rfl
            have r3 := HP.out.c 3 rfl
            have r4 := HP.out.c 4 rfl
            have zr := HP.out.1
            have p0 := HQ.out.c 0 rfl
            have p1 := HQ.out.c 1 rfl
            have p2 := HQ.out.c 2 rfl
            have p3 := HQ.out.c 3 rfl
            have p4 := HQ.out.c 4 rfl
            have q0 := HQ.out.f 0 rfl
            have q1 := HQ.out.f 1 rfl
            have q2 := HQ.out.f 2 rfl
            have q3 := HQ.out.f 3 rfl
            have q4 := HQ.out.f 4 rfl
            have zp := HQ.out.1
            go_wp2_with fail
            have K := fun w i1 i2 i3 => K19.out Y1 d1 Y2 d2 0 Y3 d3 chq HVQ.out w i1 hd1 i2 hd2 i3 hd3
            rw [comM_ok HVQ.out (by omega)] at K
            simp only at K
            refine (K _ HY.out.1.1 HY.out.2.1.1 HY.out.2.2.1).mono ?_
            rintro r w5 h
            obtain ⟨Z1, q1', Z2, q2', Z3, q3', rfl, hq1, hq2, hq3, i1, i2, i3, f1, f2, f3, hb⟩ := PO.at h n n 0 HL.out (by rw [apC_len, HL2.out]) rfl
            have hqr4 : Q < w4.heap.size := HQ.out.1
            have HZ : Hid (Ix G Q w5 Z1 R ∧ Ix G Q w5 Z2 (apC W chq) ∧ Ix G Q w5 Z3 (flat [])) := Lib.hid ⟨Ix.fr i1 f1 (by omega) (by omega), Ix.fr i2 f2 (by omega) (by omega), Ix.fr i3 f3 (by omega) (by omega)⟩
            replace HQ := Lib.hid (HQ.out.below hb)
            replace HP := Lib.hid (HP.out.below hb)
            replace HG := Lib.hid (HG.out.below hb)
            replace HBx := Lib.hid (HBx.out.below hb)
            replace HGG := Lib.hid (chain HGG.out hb)
            clear p0 p1 p2 p3 p4 q0 q1 q2 q3 q4 r0 r1 r2 r3 r4 zp zr h i1 i2 i3 f1 f2 f3 hb K HY
            have p0 := HQ.out.c 0 rfl
            have p1 := HQ.out.c 1 rfl
            have p2 := HQ.out.c 2 rfl
            have p3 := HQ.out.c 3 rfl
            have p4 := HQ.out.c 4 rfl
            have q0 := HQ.out.f 0 rfl
            have q1 := HQ.out.f 1 rfl
            have q2 := HQ.out.f 2 rfl
            have q3 := HQ.out.f 3 rfl
            have q4 := HQ.out.f 4 rfl
            have zp := HQ.out.1
            go_upto_region 30 with fail
            obtain ⟨u2, hu⟩ : ∃ u, u = ((((((w5).setCell ⟨Q, 0, none⟩ (.slice Z1 n q1')).setCell ⟨Q, 1, none⟩ (.slice Z2 n q2')).setCell ⟨Q, 2, none⟩ (.int .i64 0)).setCell ⟨Q, 3, none⟩ (.int .i64 (-1))).setCell ⟨Q, 4, none⟩ (.slice Z3 0 q3')) := ⟨_, rfl⟩
            replace HQ : Hid (Cl Q u2 [.slice Z1 n q1', .slice Z2 n q2', .int .i64 0, .int .i64 (-1), .slice Z3 0 q3']) := Lib.hid (by rw [hu]; exact HQ.out.set5 _ _ _ _ _)
            replace HP : Hid (Cl w.heap.size u2 [.slice A n c, .slice A2 n c2, .int .i64 Ac, .int .i64 Pe, .slice A3 ch.length c3]) := Lib.hid (by rw [hu]; exact HP.out.far5 (by omega) _ _ _ _ _)
            replace HG : Hid (Cl G u2 ((apC W chq).map (Value.int .i64))) := Lib.hid (by rw [hu]; exact HG.out.far5 (by omega) _ _ _ _ _)
            replace HZ : Hid (Ix G Q u2 Z1 R ∧ Ix G Q u2 Z2 (apC W chq) ∧ Ix G Q u2 Z3 (flat [])) := Lib.hid (by rw [hu]; exact ⟨HZ.out.1.setQ5 _ _ _ _ _, HZ.out.2.1.setQ5 _ _ _ _ _, HZ.out.2.2.setQ5 _ _ _ _ _⟩)
            replace HGG : Hid (Below w.heap.size w u2) := Lib.hid (by rw [hu]; exact below_set5 HGG.out hQw _ _ _ _ _)
            rw [← hu]
            clear hu p0 p1 p2 p3 p4 q0 q1 q2 q3 q4 zp HBx
            have p0 := HQ.out.c 0 rfl
            have p1 := HQ.out.c 1 rfl
            have p2 := HQ.out.c 2 rfl
            have p3 := HQ.out.c 3 rfl
            have p4 := HQ.out.c 4 rfl
            have zp := HQ.out.1
            have r0 := HP.out.c 0 rfl
            have r1 := HP.out.c 1 rfl
            have r2 := HP.out.c 2 rfl
            have r3 := HP.out.c 3 rfl
            have r4 := HP.out.c 4 rfl
            have zr := HP.out.1
            go_wp2_with fail
            refine (K28.out _ _ _ _ R _ HL.out HZ.out.1.1 (HB1.out.below HGG.out) hq1 hc).mono ?_
            rintro r w6 ⟨rfl, hb⟩
            replace HQ := Lib.hid (HQ.out.below hb)
            replace HP := Lib.hid (HP.out.below hb)
            replace HG := Lib.hid (HG.out.below hb)
            replace HZ := Lib.hid (And.intro (HZ.out.1.below hb) (And.intro (HZ.out.2.1.below hb) (HZ.out.2.2.below hb)))
            replace HGG := Lib.hid (chain HGG.out hb)
            clear hb p0 p1 p2 p3 p4 r0 r1 r2 r3 r4 zp zr
            have p0 := HQ.out.c 0 rfl
            have p1 := HQ.out.c 1 rfl
            have p2 := HQ.out.c 2 rfl
            have p3 := HQ.out.c 3 rfl
            have p4 := HQ.out.c 4 rfl
            have zp := HQ.out.1
            have r0 := HP.out.c 0 rfl
            have r1 := HP.out.c 1 rfl
            have r2 := HP.out.c 2 rfl
            have r3 := HP.out.c 3 rfl
            have r4 := HP.out.c 4 rfl
            have zr := HP.out.1
            go_wp2_with fail
            refine (K28.out _ _ _ _ (apC W chq) _ (by rw [apC_len, HL2.out]) HZ.out.2.1.1 HG.out.ik hq2 hcG).mono ?_
            rintro r w7 ⟨rfl, hb⟩
            replace HQ := Lib.hid (HQ.out.below hb)
            replace HP := Lib.hid (HP.out.below hb)
            replace HG := Lib.hid (HG.out.below hb)
            replace HZ := Lib.hid (And.intro (HZ.out.1.below hb) (And.intro (HZ.out.2.1.below hb) (HZ.out.2.2.below hb)))
            replace HGG := Lib.hid (chain HGG.out hb)
            clear hb p0 p1 p2 p3 p4 r0 r1 r2 r3 r4 zp zr
            have HWL := Lib.hid (show (apC W chq).length = n by rw [apC_len, HL2.out])
            have hs' : n ≤ 5000 := by omega
            have K := fun w i1 i2 i3 => read26 Z1 n q1' Z2 n q2' 0 (-1) Z3 0 q3' R (apC W chq) [] w HL.out i1 hq1 HWL.out i2 hq2 rfl i3 hq3 hs' hs' (by omega) HVC.out
            rw [show pgM R (apC W chq) 0 = R by simp [pgM]] at K
            replace K := Lib.hid K
            have p0 := HQ.out.c 0 rfl
            have p1 := HQ.out.c 1 rfl
            have p2 := HQ.out.c 2 rfl
            have p3 := HQ.out.c 3 rfl
            have p4 := HQ.out.c 4 rfl
            have zp := HQ.out.1
            have r0 := HP.out.c 0 rfl
            have r1 := HP.out.c 1 rfl
            have r2 := HP.out.c 2 rfl
            have r3 := HP.out.c 3 rfl
            have r4 := HP.out.c 4 rfl
            have zr := HP.out.1
            go_upto_region 33 with fail
            have KA1 : ∀ W', ((∀ b o, b < w7.heap.size → W'.cell? ⟨b, o, none⟩ = w7.cell? ⟨b, o, none⟩) ∧ Below w7.heap.size w7 W') → Calls Try.prog 26 #[.agg #[.slice Z1 n q1', .slice Z2 n q2', .int .i64 0, .int .i64 (-1), .slice Z3 0 q3']] W' fun r w' => ∃ E cE, r = .returned (.slice E n cE) ∧ n ≤ cE ∧ Ik .i64 w' E R ∧ Below W'.heap.size W' w' := fun W' hH => by
              refine (K.out W' (HZ.out.1.1.below hH.2) (HZ.out.2.1.1.below hH.2) (HZ.out.2.2.1.below hH.2)).mono ?_
              rintro r w8 ⟨v, rfl, ho, hb⟩
              have ho' : w8.ownsRow W'.heap.size 3 1 v n (R.map (Value.int .i64)) := by rw [← HL.out]; exact ho
              obtain ⟨E, cE, rfl, hcE, _, hEi, _, _⟩ := own_it ho'
              exact ⟨E, cE, rfl, hcE, hEi, hb⟩
            have KA2 := fun W' (hH : (∀ b o, b < w7.heap.size → W'.cell? ⟨b, o, none⟩ = w7.cell? ⟨b, o, none⟩) ∧ Below w7.heap.size w7 W') (E : Option Addr) (cE : Nat) (h : Ik .i64 W' E R) (hcE : n ≤ cE) => K28.out E A cE c R W' HL.out h (HB1.out.below (chain HGG.out hH.2)) hcE hc
            replace KA1 := Lib.hid KA1
            replace KA2 := Lib.hid KA2
            clear K K28 K26 K15 K17 K19
            go_region_held3 (fun W' => (∀ b o, b < w7.heap.size → W'.cell? ⟨b, o, none⟩ = w7.cell? ⟨b, o, none⟩) ∧ Below w7.heap.size w7 W')
              (first | exact Kp.mk (Below.refl _ _).drew | (refine Kp.next ?_ hb8; assumption) | (refine Kp.next ?_ hb9; assumption))
              (first | (go_at_call 26; refine (KA1.out _ ?_).mono ?_; assumption; rintro r w8 ⟨E, cE, rfl, hcE, hEi, hb8⟩) | (go_at_call 28; refine (KA2.out _ ?_ _ _ hEi hcE).mono ?_; assumption; rintro r w9 ⟨rfl, hb9⟩))
            rename_i hh
            have HGF := Lib.hid (chain HGG.out hh.2)
            clear hh hb8 hb9 p0 p1 p2 p3 p4 r0 r1 r2 r3 r4 zp zr
            go_wp2
            go_ret
            exact ⟨rfl, HGF.out⟩
          · have hg01 : (1 : Int) = 0 ∨ (1 : Int) = 1 := by omega
            have K := fun w i1 i2 i3 => K17.out X1 k1 X2 k2 X3 k3 chq HVQ.out 1 w i1 hk1 i2 hk2 i3 hk3
            rw [selM_ok HVQ.out hg01] at K
            simp only at K
            replace K := Lib.hid K
            replace HVQ := Lib.hid (vP_sel HVQ.out hg01)
            have hcq : chq.length ≤ 5000 := by have := (vP_t HVQ.out).2.2.2.2.2.2.1; omega
            have HVC := Lib.hid (vP_com HVQ.out hg01)
            clear hg01
            have p0 := HQ.out.c 0 rfl
            have p1 := HQ.out.c 1 rfl
            have p2 := HQ.out.c 2 rfl
            have p3 := HQ.out.c 3 rfl
            have p4 := HQ.out.c 4 rfl
            have q0 := HQ.out.f 0 rfl
            have q1 := HQ.out.f 1 rfl
            have q2 := HQ.out.f 2 rfl
            have q3 := HQ.out.f 3 rfl
            have q4 := HQ.out.f 4 rfl
            have zp := HQ.out.1
            go_wp2_with fail
            refine (K.out _ HX.out.1.1 HX.out.2.1.1 HX.out.2.2.1).mono ?_
            rintro r w1 h
            obtain ⟨Y1, d1, Y2, d2, Y3, d3, rfl, hd1, hd2, hd3, i1, i2, i3, f1, f2, f3, hb⟩ := PO.at h n n chq.length HL.out HL2.out rfl
            have HY : Hid (Ix G Q w1 Y1 R ∧ Ix G Q w1 Y2 W ∧ Ix G Q w1 Y3 (flat chq)) := Lib.hid ⟨Ix.fr i1 f1 (by omega) (by omega), Ix.fr i2 f2 (by omega) (by omega), Ix.fr i3 f3 (by omega) (by omega)⟩
            replace HQ := Lib.hid (HQ.out.below hb)
            replace HP := Lib.hid (HP.out.below hb)
            replace HG := Lib.hid (HG.out.below hb)
            replace HBx := Lib.hid (HBx.out.below hb)
            replace HGG := Lib.hid (chain HGG.out hb)
            clear p0 p1 p2 p3 p4 q0 q1 q2 q3 q4 zp h i1 i2 i3 f1 f2 f3 hb K HX
            have hqr1 : Q < w1.heap.size := HQ.out.1
            have p0 := HQ.out.c 0 rfl
            have p1 := HQ.out.c 1 rfl
            have p2 := HQ.out.c 2 rfl
            have p3 := HQ.out.c 3 rfl
            have p4 := HQ.out.c 4 rfl
            have q0 := HQ.out.f 0 rfl
            have q1 := HQ.out.f 1 rfl
            have q2 := HQ.out.f 2 rfl
            have q3 := HQ.out.f 3 rfl
            have q4 := HQ.out.f 4 rfl
            have zp := HQ.out.1
            go_upto_region 27 with fail
            obtain ⟨u1, hu⟩ : ∃ u, u = ((((((w1).setCell ⟨Q, 0, none⟩ (.slice Y1 n d1)).setCell ⟨Q, 1, none⟩ (.slice Y2 n d2)).setCell ⟨Q, 2, none⟩ (.int .i64 Ac)).setCell ⟨Q, 3, none⟩ (.int .i64 1)).setCell ⟨Q, 4, none⟩ (.slice Y3 chq.length d3)) := ⟨_, rfl⟩
            replace HQ : Hid (Cl Q u1 [.slice Y1 n d1, .slice Y2 n d2, .int .i64 Ac, .int .i64 1, .slice Y3 chq.length d3]) := Lib.hid (by rw [hu]; exact HQ.out.set5 _ _ _ _ _)
            replace HP : Hid (Cl w.heap.size u1 [.slice A n c, .slice A2 n c2, .int .i64 Ac, .int .i64 Pe, .slice A3 ch.length c3]) := Lib.hid (by rw [hu]; exact HP.out.far5 (by omega) _ _ _ _ _)
            replace HG : Hid (Cl G u1 ((apC W chq).map (Value.int .i64))) := Lib.hid (by rw [hu]; exact HG.out.far5 (by omega) _ _ _ _ _)
            replace HBx : Hid (Ix G Q u1 B l0) := Lib.hid (by rw [hu]; exact HBx.out.setQ5 _ _ _ _ _)
            replace HY : Hid (Ix G Q u1 Y1 R ∧ Ix G Q u1 Y2 W ∧ Ix G Q u1 Y3 (flat chq)) := Lib.hid (by rw [hu]; exact ⟨HY.out.1.setQ5 _ _ _ _ _, HY.out.2.1.setQ5 _ _ _ _ _, HY.out.2.2.setQ5 _ _ _ _ _⟩)
            replace HGG : Hid (Below w.heap.size w u1) := Lib.hid (by rw [hu]; exact below_set5 HGG.out hQw _ _ _ _ _)
            rw [← hu]
            clear hu p0 p1 p2 p3 p4 q0 q1 q2 q3 q4 zp
            have p0 := HQ.out.c 0 rfl
            have p1 := HQ.out.c 1 rfl
            have p2 := HQ.out.c 2 rfl
            have p3 := HQ.out.c 3 rfl
            have p4 := HQ.out.c 4 rfl
            have zp := HQ.out.1
            go_wp2_with fail
            refine (K26.out Y1 d1 Y2 d2 1 Y3 d3 chq HVQ.out _ HY.out.1.1 hd1 HY.out.2.1.1 hd2 HY.out.2.2.1 hd3).mono ?_
            rintro r w3 ⟨v, rfl, ho, hb⟩
            have ho' : w3.ownsRow u1.heap.size 3 1 v n (l0.map (Value.int .i64)) := by rw [← HL0N.out]; exact ho
            obtain ⟨E, cE, rfl, hcE, _, hEi, _, _⟩ := own_it ho'
            have HEi := Lib.hid hEi
            replace HQ := Lib.hid (HQ.out.below hb)
            replace HP := Lib.hid (HP.out.below hb)
            replace HG := Lib.hid (HG.out.below hb)
            replace HBx := Lib.hid (HBx.out.below hb)
            replace HGG := Lib.hid (chain HGG.out hb)
            replace HY := Lib.hid (And.intro (HY.out.1.below hb) (And.intro (HY.out.2.1.below hb) (HY.out.2.2.below hb)))
            clear ho ho' hEi hb p0 p1 p2 p3 p4 zp
            go_wp2_with fail
            refine (K28.out _ _ _ _ l0 _ HL0N.out HEi.out HBx.out.1 hcE hcB).mono ?_
            rintro r w4 ⟨rfl, hb⟩
            replace HQ := Lib.hid (HQ.out.below hb)
            replace HP := Lib.hid (HP.out.below hb)
            replace HG := Lib.hid (HG.out.below hb)
            replace HBx := Lib.hid (HBx.out.below hb)
            replace HGG := Lib.hid (chain HGG.out hb)
            replace HY := Lib.hid (And.intro (HY.out.1.below hb) (And.intro (HY.out.2.1.below hb) (HY.out.2.2.below hb)))
            clear hb HEi
            have r0 := HP.out.c 0 rfl
            have r1 := HP.out.c 1 rfl
            have r2 := HP.out.c 2 rfl
            have r3 := HP.out.c 3 rfl
            have r4 := HP.out.c 4 rfl
            have zr := HP.out.1
            have p0 := HQ.out.c 0 rfl
            have p1 := HQ.out.c 1 rfl
            have p2 := HQ.out.c 2 rfl
            have p3 := HQ.out.c 3 rfl
            have p4 := HQ.out.c 4 rfl
            have q0 := HQ.out.f 0 rfl
            have q1 := HQ.out.f 1 rfl
            have q2 := HQ.out.f 2 rfl
            have q3 := HQ.out.f 3 rfl
            have q4 := HQ.out.f 4 rfl
            have zp := HQ.out.1
            go_wp2_with fail
            have K := fun w i1 i2 i3 => K19.out Y1 d1 Y2 d2 1 Y3 d3 chq HVQ.out w i1 hd1 i2 hd2 i3 hd3
            rw [comM_ok HVQ.out (by omega)] at K
            simp only at K
            refine (K _ HY.out.1.1 HY.out.2.1.1 HY.out.2.2.1).mono ?_
            rintro r w5 h
            obtain ⟨Z1, q1', Z2, q2', Z3, q3', rfl, hq1, hq2, hq3, i1, i2, i3, f1, f2, f3, hb⟩ := PO.at h n n 0 HL.out (by rw [apC_len, HL2.out]) rfl
            have hqr4 : Q < w4.heap.size := HQ.out.1
            have HZ : Hid (Ix G Q w5 Z1 R ∧ Ix G Q w5 Z2 (apC W chq) ∧ Ix G Q w5 Z3 (flat [])) := Lib.hid ⟨Ix.fr i1 f1 (by omega) (by omega), Ix.fr i2 f2 (by omega) (by omega), Ix.fr i3 f3 (by omega) (by omega)⟩
            replace HQ := Lib.hid (HQ.out.below hb)
            replace HP := Lib.hid (HP.out.below hb)
            replace HG := Lib.hid (HG.out.below hb)
            replace HBx := Lib.hid (HBx.out.below hb)
            replace HGG := Lib.hid (chain HGG.out hb)
            clear p0 p1 p2 p3 p4 q0 q1 q2 q3 q4 r0 r1 r2 r3 r4 zp zr h i1 i2 i3 f1 f2 f3 hb K HY
            have p0 := HQ.out.c 0 rfl
            have p1 := HQ.out.c 1 rfl
            have p2 := HQ.out.c 2 rfl
            have p3 := HQ.out.c 3 rfl
            have p4 := HQ.out.c 4 rfl
            have q0 := HQ.out.f 0 rfl
            have q1 := HQ.out.f 1 rfl
            have q2 := HQ.out.f 2 rfl
            have q3 := HQ.out.f 3 rfl
            have q4 := HQ.out.f 4 rfl
            have zp := HQ.out.1
            go_upto_region 30 with fail
            obtain ⟨u2, hu⟩ : ∃ u, u = ((((((w5).setCell ⟨Q, 0, none⟩ (.slice Z1 n q1')).setCell ⟨Q, 1, none⟩ (.slice Z2 n q2')).setCell ⟨Q, 2, none⟩ (.int .i64 1)).setCell ⟨Q, 3, none⟩ (.int .i64 (-1))).setCell ⟨Q, 4, none⟩ (.slice Z3 0 q3')) := ⟨_, rfl⟩
            replace HQ : Hid (Cl Q u2 [.slice Z1 n q1', .slice Z2 n q2', .int .i64 1, .int .i64 (-1), .slice Z3 0 q3']) := Lib.hid (by rw [hu]; exact HQ.out.set5 _ _ _ _ _)
            replace HP : Hid (Cl w.heap.size u2 [.slice A n c, .slice A2 n c2, .int .i64 Ac, .int .i64 Pe, .slice A3 ch.length c3]) := Lib.hid (by rw [hu]; exact HP.out.far5 (by omega) _ _ _ _ _)
            replace HG : Hid (Cl G u2 ((apC W chq).map (Value.int .i64))) := Lib.hid (by rw [hu]; exact HG.out.far5 (by omega) _ _ _ _ _)
            replace HZ : Hid (Ix G Q u2 Z1 R ∧ Ix G Q u2 Z2 (apC W chq) ∧ Ix G Q u2 Z3 (flat [])) := Lib.hid (by rw [hu]; exact ⟨HZ.out.1.setQ5 _ _ _ _ _, HZ.out.2.1.setQ5 _ _ _ _ _, HZ.out.2.2.setQ5 _ _ _ _ _⟩)
            replace HGG : Hid (Below w.heap.size w u2) := Lib.hid (by rw [hu]; exact below_set5 HGG.out hQw _ _ _ _ _)
            rw [← hu]
            clear hu p0 p1 p2 p3 p4 q0 q1 q2 q3 q4 zp HBx
            have p0 := HQ.out.c 0 rfl
            have p1 := HQ.out.c 1 rfl
            have p2 := HQ.out.c 2 rfl
            have p3 := HQ.out.c 3 rfl
            have p4 := HQ.out.c 4 rfl
            have zp := HQ.out.1
            have r0 := HP.out.c 0 rfl
            have r1 := HP.out.c 1 rfl
            have r2 := HP.out.c 2 rfl
            have r3 := HP.out.c 3 rfl
            have r4 := HP.out.c 4 rfl
            have zr := HP.out.1
            go_wp2_with fail
            refine (K28.out _ _ _ _ R _ HL.out HZ.out.1.1 (HB1.out.below HGG.out) hq1 hc).mono ?_
            rintro r w6 ⟨rfl, hb⟩
            replace HQ := Lib.hid (HQ.out.below hb)
            replace HP := Lib.hid (HP.out.below hb)
            replace HG := Lib.hid (HG.out.below hb)
            replace HZ := Lib.hid (And.intro (HZ.out.1.below hb) (And.intro (HZ.out.2.1.below hb) (HZ.out.2.2.below hb)))
            replace HGG := Lib.hid (chain HGG.out hb)
            clear hb p0 p1 p2 p3 p4 r0 r1 r2 r3 r4 zp zr
            have p0 := HQ.out.c 0 rfl
            have p1 := HQ.out.c 1 rfl
            have p2 := HQ.out.c 2 rfl
            have p3 := HQ.out.c 3 rfl
            have p4 := HQ.out.c 4 rfl
            have zp := HQ.out.1
            have r0 := HP.out.c 0 rfl
            have r1 := HP.out.c 1 rfl
            have r2 := HP.out.c 2 rfl
            have r3 := HP.out.c 3 rfl
            have r4 := HP.out.c 4 rfl
            have zr := HP.out.1
            go_wp2_with fail
            refine (K28.out _ _ _ _ (apC W chq) _ (by rw [apC_len, HL2.out]) HZ.out.2.1.1 HG.out.ik hq2 hcG).mono ?_
            rintro r w7 ⟨rfl, hb⟩
            replace HQ := Lib.hid (HQ.out.below hb)
            replace HP := Lib.hid (HP.out.below hb)
            replace HG := Lib.hid (HG.out.below hb)
            replace HZ := Lib.hid (And.intro (HZ.out.1.below hb) (And.intro (HZ.out.2.1.below hb) (HZ.out.2.2.below hb)))
            replace HGG := Lib.hid (chain HGG.out hb)
            clear hb p0 p1 p2 p3 p4 r0 r1 r2 r3 r4 zp zr
            have HWL := Lib.hid (show (apC W chq).length = n by rw [apC_len, HL2.out])
            have hs' : n ≤ 5000 := by omega
            have K := fun w i1 i2 i3 => read26 Z1 n q1' Z2 n q2' 1 (-1) Z3 0 q3' R (apC W chq) [] w HL.out i1 hq1 HWL.out i2 hq2 rfl i3 hq3 hs' hs' (by omega) HVC.out
            rw [show pgM R (apC W chq) 1 = apC W chq by simp [pgM]] at K
            replace K := Lib.hid K
            have p0 := HQ.out.c 0 rfl
            have p1 := HQ.out.c 1 rfl
            have p2 := HQ.out.c 2 rfl
            have p3 := HQ.out.c 3 rfl
            have p4 := HQ.out.c 4 rfl
            have zp := HQ.out.1
            have r0 := HP.out.c 0 rfl
            have r1 := HP.out.c 1 rfl
            have r2 := HP.out.c 2 rfl
            have r3 := HP.out.c 3 rfl
            have r4 := HP.out.c 4 rfl
            have zr := HP.out.1
            go_wp2_with fail
            refine (K.out _ HZ.out.1.1 HZ.out.2.1.1 HZ.out.2.2.1).mono ?_
            rintro r w8 ⟨v, rfl, ho, hb⟩
            have ho' : w8.ownsRow w7.heap.size 3 1 v n ((apC W chq).map (Value.int .i64)) := by rw [← HWL.out]; exact ho
            obtain ⟨E, cE, rfl, hcE, _, hEi, _, _⟩ := own_it ho'
            replace HG := Lib.hid (HG.out.below hb)
            replace HGG := Lib.hid (chain HGG.out hb)
            have HEi := Lib.hid hEi
            clear ho ho' hEi hb
            go_wp2_with fail
            refine (K28.out _ _ _ _ (apC W chq) _ HWL.out HEi.out HG.out.ik hcE hcG).mono ?_
            rintro r w9 ⟨rfl, hb⟩
            replace HGG := Lib.hid (chain HGG.out hb)
            go_wp2
            go_ret
            exact ⟨rfl, HGG.out⟩
set_option maxRecDepth 100000 in
set_option maxHeartbeats 16000000 in
theorem cons5_great (A : Option Addr) (n c : Nat) (A2 : Option Addr) (n2 c2 : Nat) (Ac Pe : Int) (A3 : Option Addr) (m c3 : Nat) (R W : List Int) (ch : List (Int × Int)) (A4 : Option Addr) (n1 c4 : Nat) (l : List (Int × Int)) (pg : Int) (w : World) (hl : R.length = n) (hb : Ik .i64 w A R) (hc : n ≤ c) (hl2 : W.length = n2) (hb2 : Ik .i64 w A2 W) (hc2 : n2 ≤ c2) (hl3 : ch.length = m) (hb3 : Ik .i64 w A3 (flat ch)) (hc3 : m ≤ c3) (hl4 : l.length = n1) (hb4 : Ik .i64 w A4 (flat l)) (hc4 : n1 ≤ c4) (hG : ¬ (n ≤ 40 ∧ n2 ≤ 40 ∧ m ≤ 120)) : Calls Try.prog 5 #[.agg #[.slice A n c, .slice A2 n2 c2, .int .i64 Ac, .int .i64 Pe, .slice A3 m c3], .slice A4 n1 c4, .int .u8 pg] w fun r w' => r = .returned (.bool true) ∧ Below w.heap.size w w' := by
  have HP0 := Lib.hid (Cl.new (w := w) rfl [.slice A n c, .slice A2 n2 c2, .int .i64 Ac, .int .i64 Pe, .slice A3 m c3] 25)
  have HG0 := Lib.hid (show Below w.heap.size w (w.alloc (.cells #[.slice A n c, .slice A2 n2 c2, .int .i64 Ac, .int .i64 Pe, .slice A3 m c3] 25)) from (Below.refl _ _).alloc (Nat.le_refl _) _)
  have K7 := fun w => great7 A n c A2 n2 c2 Ac Pe A3 m c3 R W ch w
  rw [show (decide (40 < n) || decide (40 < n2) || decide (120 < m)) = true by simp; omega] at K7
  replace K7 := Lib.hid K7
  clear hl hl2 hl3 hl4 hb hb2 hb3 hb4 hG
  go_enter Try.func5, Try.ntmps5
  go_wp2_with fail
  refine (awake6 _).mono ?_
  rintro r w1 ⟨rfl, hb1⟩
  have HP1 := Lib.hid (HP0.out.below hb1)
  have HG1 := Lib.hid (chain HG0.out hb1)
  clear hb1 HP0 HG0
  have p0 := HP1.out.c 0 rfl
  have p1 := HP1.out.c 1 rfl
  have p2 := HP1.out.c 2 rfl
  have p3 := HP1.out.c 3 rfl
  have p4 := HP1.out.c 4 rfl
  have zp := HP1.out.1
  go_wp2_with fail
  refine (K7.out _).mono ?_
  rintro r w2 ⟨rfl, hb2⟩
  have HP2 := Lib.hid (HP1.out.below hb2)
  have HG2 := Lib.hid (chain HG1.out hb2)
  clear hb2 HP1 HG1 K7 p0 p1 p2 p3 p4 zp
  go_wp2
  go_ret
  exact ⟨rfl, HG2.out⟩
set_option maxRecDepth 100000 in
set_option maxHeartbeats 16000000 in
theorem cons5_long (A : Option Addr) (n c : Nat) (A2 : Option Addr) (n2 c2 : Nat) (Ac Pe : Int) (A3 : Option Addr) (m c3 : Nat) (R W : List Int) (ch : List (Int × Int)) (A4 : Option Addr) (n1 c4 : Nat) (l : List (Int × Int)) (pg : Int) (w : World) (hl : R.length = n) (hb : Ik .i64 w A R) (hc : n ≤ c) (hl2 : W.length = n2) (hb2 : Ik .i64 w A2 W) (hc2 : n2 ≤ c2) (hl3 : ch.length = m) (hb3 : Ik .i64 w A3 (flat ch)) (hc3 : m ≤ c3) (hl4 : l.length = n1) (hb4 : Ik .i64 w A4 (flat l)) (hc4 : n1 ≤ c4) (hG : n ≤ 40 ∧ n2 ≤ 40 ∧ m ≤ 120) (h4 : ¬ n1 ≤ 60) : Calls Try.prog 5 #[.agg #[.slice A n c, .slice A2 n2 c2, .int .i64 Ac, .int .i64 Pe, .slice A3 m c3], .slice A4 n1 c4, .int .u8 pg] w fun r w' => r = .returned (.bool true) ∧ Below w.heap.size w w' := by
  have HP0 := Lib.hid (Cl.new (w := w) rfl [.slice A n c, .slice A2 n2 c2, .int .i64 Ac, .int .i64 Pe, .slice A3 m c3] 25)
  have HG0 := Lib.hid (show Below w.heap.size w (w.alloc (.cells #[.slice A n c, .slice A2 n2 c2, .int .i64 Ac, .int .i64 Pe, .slice A3 m c3] 25)) from (Below.refl _ _).alloc (Nat.le_refl _) _)
  have K7 := fun w => great7 A n c A2 n2 c2 Ac Pe A3 m c3 R W ch w
  rw [show (decide (40 < n) || decide (40 < n2) || decide (120 < m)) = false by simp; omega] at K7
  replace K7 := Lib.hid K7
  have d4 : decide (60 < (n1 : Int)) = true := by simp; omega
  clear hl hl2 hl3 hl4 hb hb2 hb3 hb4 hG h4
  go_enter Try.func5, Try.ntmps5
  go_wp2_with fail
  refine (awake6 _).mono ?_
  rintro r w1 ⟨rfl, hb1⟩
  have HP1 := Lib.hid (HP0.out.below hb1)
  have HG1 := Lib.hid (chain HG0.out hb1)
  clear hb1 HP0 HG0
  have p0 := HP1.out.c 0 rfl
  have p1 := HP1.out.c 1 rfl
  have p2 := HP1.out.c 2 rfl
  have p3 := HP1.out.c 3 rfl
  have p4 := HP1.out.c 4 rfl
  have zp := HP1.out.1
  go_wp2_with fail
  refine (K7.out _).mono ?_
  rintro r w2 ⟨rfl, hb2⟩
  have HP2 := Lib.hid (HP1.out.below hb2)
  have HG2 := Lib.hid (chain HG1.out hb2)
  clear hb2 HP1 HG1 K7 p0 p1 p2 p3 p4 zp
  go_wp2
  go_ret
  exact ⟨rfl, HG2.out⟩
set_option maxRecDepth 100000 in
set_option maxHeartbeats 16000000 in
theorem cons5_bad (A : Option Addr) (n c : Nat) (A2 : Option Addr) (n2 c2 : Nat) (Ac Pe : Int) (A3 : Option Addr) (m c3 : Nat) (R W : List Int) (ch : List (Int × Int)) (A4 : Option Addr) (n1 c4 : Nat) (l : List (Int × Int)) (pg : Int) (w : World) (hl : R.length = n) (hb : Ik .i64 w A R) (hc : n ≤ c) (hl2 : W.length = n2) (hb2 : Ik .i64 w A2 W) (hc2 : n2 ≤ c2) (hl3 : ch.length = m) (hb3 : Ik .i64 w A3 (flat ch)) (hc3 : m ≤ c3) (hl4 : l.length = n1) (hb4 : Ik .i64 w A4 (flat l)) (hc4 : n1 ≤ c4) (hG : n ≤ 40 ∧ n2 ≤ 40 ∧ m ≤ 120) (h4 : n1 ≤ 60) (hv : vP R W Ac Pe ch = false) : Calls Try.prog 5 #[.agg #[.slice A n c, .slice A2 n2 c2, .int .i64 Ac, .int .i64 Pe, .slice A3 m c3], .slice A4 n1 c4, .int .u8 pg] w fun r w' => r = .returned (.bool true) ∧ Below w.heap.size w w' := by
  have HP0 := Lib.hid (Cl.new (w := w) rfl [.slice A n c, .slice A2 n2 c2, .int .i64 Ac, .int .i64 Pe, .slice A3 m c3] 25)
  have HG0 := Lib.hid (show Below w.heap.size w (w.alloc (.cells #[.slice A n c, .slice A2 n2 c2, .int .i64 Ac, .int .i64 Pe, .slice A3 m c3] 25)) from (Below.refl _ _).alloc (Nat.le_refl _) _)
  have K7 := fun w => great7 A n c A2 n2 c2 Ac Pe A3 m c3 R W ch w
  rw [show (decide (40 < n) || decide (40 < n2) || decide (120 < m)) = false by simp; omega] at K7
  replace K7 := Lib.hid K7
  have d4 : decide (60 < (n1 : Int)) = false := by simp; omega
  have KV := fun w h h2 h3 => rvalid12 A n c A2 n2 c2 Ac Pe A3 m c3 R W ch w hl h hc hl2 h2 hc2 hl3 h3 hc3 (by omega) (by omega) (by omega)
  rw [hv] at KV
  replace KV := Lib.hid KV
  have HB1 := Lib.hid hb
  have HB2 := Lib.hid hb2
  have HB3 := Lib.hid hb3
  clear hv
  clear hl hl2 hl3 hl4 hb hb2 hb3 hb4 hG h4
  go_enter Try.func5, Try.ntmps5
  go_wp2_with fail
  refine (awake6 _).mono ?_
  rintro r w1 ⟨rfl, hb1⟩
  have HP1 := Lib.hid (HP0.out.below hb1)
  have HG1 := Lib.hid (chain HG0.out hb1)
  clear hb1 HP0 HG0
  have p0 := HP1.out.c 0 rfl
  have p1 := HP1.out.c 1 rfl
  have p2 := HP1.out.c 2 rfl
  have p3 := HP1.out.c 3 rfl
  have p4 := HP1.out.c 4 rfl
  have zp := HP1.out.1
  go_wp2_with fail
  refine (K7.out _).mono ?_
  rintro r w2 ⟨rfl, hb2⟩
  have HP2 := Lib.hid (HP1.out.below hb2)
  have HG2 := Lib.hid (chain HG1.out hb2)
  clear hb2 HP1 HG1 K7 p0 p1 p2 p3 p4 zp
  have p0 := HP2.out.c 0 rfl
  have p1 := HP2.out.c 1 rfl
  have p2 := HP2.out.c 2 rfl
  have p3 := HP2.out.c 3 rfl
  have p4 := HP2.out.c 4 rfl
  have zp := HP2.out.1
  go_wp2_with fail
  refine (KV.out _ (HB1.out.below HG2.out) (HB2.out.below HG2.out) (HB3.out.below HG2.out)).mono ?_
  rintro r w3 ⟨rfl, hb3⟩
  replace HG2 := Lib.hid (chain HG2.out hb3)
  clear hb3 HP2 KV p0 p1 p2 p3 p4 zp
  go_wp2
  go_ret
  exact ⟨rfl, HG2.out⟩
theorem cons5 (A : Option Addr) (n c : Nat) (A2 : Option Addr) (n2 c2 : Nat) (Ac Pe : Int) (A3 : Option Addr) (m c3 : Nat) (R W : List Int) (ch : List (Int × Int)) (A4 : Option Addr) (n1 c4 : Nat) (l : List (Int × Int)) (pg : Int) (w : World) (hl : R.length = n) (hb : Ik .i64 w A R) (hc : n ≤ c) (hl2 : W.length = n2) (hb2 : Ik .i64 w A2 W) (hc2 : n2 ≤ c2) (hl3 : ch.length = m) (hb3 : Ik .i64 w A3 (flat ch)) (hc3 : m ≤ c3) (hl4 : l.length = n1) (hb4 : Ik .i64 w A4 (flat l)) (hc4 : n1 ≤ c4) (pg0 : 0 ≤ pg) (pg1 : pg ≤ 255) : Calls Try.prog 5 #[.agg #[.slice A n c, .slice A2 n2 c2, .int .i64 Ac, .int .i64 Pe, .slice A3 m c3], .slice A4 n1 c4, .int .u8 pg] w fun r w' => r = .returned (.bool true) ∧ Below w.heap.size w w' := by
  by_cases hG : n ≤ 40 ∧ n2 ≤ 40 ∧ m ≤ 120
  · by_cases h4 : n1 ≤ 60
    · cases hv : vP R W Ac Pe ch
      · exact cons5_bad A n c A2 n2 c2 Ac Pe A3 m c3 R W ch A4 n1 c4 l pg w hl hb hc hl2 hb2 hc2 hl3 hb3 hc3 hl4 hb4 hc4 hG h4 hv
      · obtain rfl : n2 = n := by have := (vP_t hv).2.2.1; omega
        exact cons5_main A n2 c A2 c2 Ac Pe A3 m c3 R W ch A4 n1 c4 l pg w hl hb hc hl2 hb2 hc2 hl3 hb3 hc3 hl4 hb4 hc4 ⟨hG.1, hG.2.2, h4⟩ hv pg0 pg1
    · exact cons5_long A n c A2 n2 c2 Ac Pe A3 m c3 R W ch A4 n1 c4 l pg w hl hb hc hl2 hb2 hc2 hl3 hb3 hc3 hl4 hb4 hc4 hG h4
  · exact cons5_great A n c A2 n2 c2 Ac Pe A3 m c3 R W ch A4 n1 c4 l pg w hl hb hc hl2 hb2 hc2 hl3 hb3 hc3 hl4 hb4 hc4 hG
end Go.Proofs.Ytamajedopofcoaa
