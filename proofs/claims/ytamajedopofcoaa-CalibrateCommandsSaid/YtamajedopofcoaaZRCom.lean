/-
  The contract of the reference's Commit. No condition but the slices' shape.
-/
import Derived.Test.YtamajedopofcoaaZC
set_option linter.unusedVariables false
set_option linter.unusedSimpArgs false
namespace Go.Proofs.Ytamajedopofcoaa
open Go.RowKit
set_option maxRecDepth 100000 in
set_option maxHeartbeats 16000000 in
theorem rcom20_no (A : Option Addr) (n c : Nat) (A2 : Option Addr) (n2 c2 : Nat) (Ac Pe : Int) (A3 : Option Addr) (m c3 : Nat) (R W : List Int) (ch : List (Int × Int)) (w : World) (hl : R.length = n) (hb : Ik .i64 w A R) (hc : n ≤ c) (hl2 : W.length = n2) (hb2 : Ik .i64 w A2 W) (hc2 : n2 ≤ c2) (hl3 : ch.length = m) (hb3 : Ik .i64 w A3 (flat ch)) (hc3 : m ≤ c3) (hs : n ≤ 5000) (hs2 : n2 ≤ 5000) (hs3 : m ≤ 5000) (hv : vP R W Ac Pe ch = false) : Calls Try.prog 20 #[.agg #[.slice A n c, .slice A2 n2 c2, .int .i64 Ac, .int .i64 Pe, .slice A3 m c3]] w (PO pz 1 w) := by
  have KV := fun w h h2 h3 => rvalid12 A n c A2 n2 c2 Ac Pe A3 m c3 R W ch w hl h hc hl2 h2 hc2 hl3 h3 hc3 hs hs2 hs3
  rw [hv] at KV
  replace KV := Lib.hid KV
  have C1 := (Cl.new (w := w) rfl [.slice A n c, .slice A2 n2 c2, .int .i64 Ac, .int .i64 Pe, .slice A3 m c3] 25).below ((Below.refl _ _).alloc (Nat.le_refl _) (.cells #[.slice none 0 0, .slice none 0 0, .int .i64 0, .int .i64 0, .slice none 0 0] 25))
  have C2 := Cl.new (P := w.heap.size + 1) (w := w.alloc (.cells #[.slice A n c, .slice A2 n2 c2, .int .i64 Ac, .int .i64 Pe, .slice A3 m c3] 25)) (by simp) [.slice none 0 0, .slice none 0 0, .int .i64 0, .int .i64 0, .slice none 0 0] 25
  have G8 : Below w.heap.size w ((w.alloc (.cells #[.slice A n c, .slice A2 n2 c2, .int .i64 Ac, .int .i64 Pe, .slice A3 m c3] 25)).alloc (.cells #[.slice none 0 0, .slice none 0 0, .int .i64 0, .int .i64 0, .slice none 0 0] 25)) := by go_grown
  have HB1 := Lib.hid (hb.below G8)
  have HB2 := Lib.hid (hb2.below G8)
  have HB3 := Lib.hid (hb3.below G8)
  have HG8 := Lib.hid G8
  have HC := Lib.hid C1
  have HD := Lib.hid C2
  have z8 : ((w.alloc (.cells #[.slice A n c, .slice A2 n2 c2, .int .i64 Ac, .int .i64 Pe, .slice A3 m c3] 25)).alloc (.cells #[.slice none 0 0, .slice none 0 0, .int .i64 0, .int .i64 0, .slice none 0 0] 25)).heap.size = w.heap.size + 2 := by simp
  have HZ8 := Lib.hid z8
  clear C1 C2 G8 z8
  clear hl hl2 hl3 hb hb2 hb3 hv
  go_enter Try.func20, Try.ntmps20
  go_wp2_with fail
  refine (KV.out _ HB1.out HB2.out HB3.out).mono ?_
  rintro r w1 ⟨rfl, hb1⟩
  have hz1 := hb1.size
  have hZ := HZ8.out
  have C1 := HC.out.below hb1
  have D1 := HD.out.below hb1
  have HG := Lib.hid (chain HG8.out hb1)
  have HI1 := Lib.hid (HB1.out.below hb1)
  have HI2 := Lib.hid (HB2.out.below hb1)
  have HI3 := Lib.hid (HB3.out.below hb1)
  have HP := Lib.hid C1
  have HQ := Lib.hid D1
  have hw1 : w.heap.size + 2 ≤ w1.heap.size := by omega
  clear C1 D1 hb1 hz1 hZ HB1 HB2 HB3 HG8 HC HD HZ8
  have p0 := HP.out.c 0 rfl
  have p1 := HP.out.c 1 rfl
  have p2 := HP.out.c 2 rfl
  have p3 := HP.out.c 3 rfl
  have p4 := HP.out.c 4 rfl
  have zp := HP.out.1
  have q0 := HQ.out.c 0 rfl
  have q1 := HQ.out.c 1 rfl
  have q2 := HQ.out.c 2 rfl
  have q3 := HQ.out.c 3 rfl
  have q4 := HQ.out.c 4 rfl
  have f0 := HQ.out.f 0 rfl
  have f1 := HQ.out.f 1 rfl
  have f2 := HQ.out.f 2 rfl
  have f3 := HQ.out.f 3 rfl
  have f4 := HQ.out.f 4 rfl
  have zq := HQ.out.1
  go_wp2_with fail
  refine bodyPost_ret (v := .tuple #[.agg #[.slice none 0 0, .slice none 0 0, .int .i64 0, .int .i64 0, .slice none 0 0], .int .i64 1]) (by simp [results, Try.results20, go_sem, q0, f0, q1, f1, q2, f2, q3, f3, q4, f4, zq] <;> first | rfl | ((repeat' apply And.intro) <;> rfl)) rfl (PO.zero rfl (below_set5 HG.out (Nat.le_succ _) _ _ _ _ _))
set_option maxRecDepth 100000 in
set_option maxHeartbeats 16000000 in
theorem rcom20_ok (A : Option Addr) (n c : Nat) (A2 : Option Addr) (n2 c2 : Nat) (Ac Pe : Int) (A3 : Option Addr) (m c3 : Nat) (R W : List Int) (ch : List (Int × Int)) (w : World) (hl : R.length = n) (hb : Ik .i64 w A R) (hc : n ≤ c) (hl2 : W.length = n2) (hb2 : Ik .i64 w A2 W) (hc2 : n2 ≤ c2) (hl3 : ch.length = m) (hb3 : Ik .i64 w A3 (flat ch)) (hc3 : m ≤ c3) (hs : n ≤ 5000) (hs2 : n2 ≤ 5000) (hs3 : m ≤ 5000) (hv : vP R W Ac Pe ch = true) : Calls Try.prog 20 #[.agg #[.slice A n c, .slice A2 n2 c2, .int .i64 Ac, .int .i64 Pe, .slice A3 m c3]] w (PO ⟨R, apC W ch, if 0 ≤ Pe then Pe else Ac, -1, []⟩ 0 w) := by
  obtain ⟨AcN, hAc⟩ : ∃ AcN, AcN = (if 0 ≤ Pe then Pe else Ac) := ⟨_, rfl⟩
  rw [← hAc]
  have HAC := Lib.hid hAc
  clear hAc
  have KV := fun w h h2 h3 => rvalid12 A n c A2 n2 c2 Ac Pe A3 m c3 R W ch w hl h hc hl2 h2 hc2 hl3 h3 hc3 hs hs2 hs3
  rw [hv] at KV
  replace KV := Lib.hid KV
  have KC := fun w h h2 h3 => copy30 A n c A2 n2 c2 Ac Pe A3 m c3 R W ch w hl h hc hl2 h2 hc2 hl3 h3 hc3 hs hs2 hs3
  replace KC := Lib.hid KC
  obtain ⟨v1', v2', v3', _, _, _, v7', vc, _, _⟩ := vP_t hv
  have hn0 : 1 ≤ n := by omega
  have hWn : W.length = n := by omega
  have HVC := Lib.hid vc
  have HWN := Lib.hid hWn
  have HRN := Lib.hid hl
  have HL3 := Lib.hid hl3
  have hb3w : ∀ b o, A3 = some ⟨b, o, none⟩ → 0 < (flat ch).length → b < w.heap.size := fun b o e h0 => by
    obtain ⟨b', o', e', hlt, _⟩ := hb3 h0
    rw [e] at e'; injection e' with e'; injection e' with e1 _; omega
  have HB3W := Lib.hid hb3w
  have C1 := (Cl.new (w := w) rfl [.slice A n c, .slice A2 n2 c2, .int .i64 Ac, .int .i64 Pe, .slice A3 m c3] 25).below ((Below.refl _ _).alloc (Nat.le_refl _) (.cells #[.slice none 0 0, .slice none 0 0, .int .i64 0, .int .i64 0, .slice none 0 0] 25))
  have C2 := Cl.new (P := w.heap.size + 1) (w := w.alloc (.cells #[.slice A n c, .slice A2 n2 c2, .int .i64 Ac, .int .i64 Pe, .slice A3 m c3] 25)) (by simp) [.slice none 0 0, .slice none 0 0, .int .i64 0, .int .i64 0, .slice none 0 0] 25
  have G8 : Below w.heap.size w ((w.alloc (.cells #[.slice A n c, .slice A2 n2 c2, .int .i64 Ac, .int .i64 Pe, .slice A3 m c3] 25)).alloc (.cells #[.slice none 0 0, .slice none 0 0, .int .i64 0, .int .i64 0, .slice none 0 0] 25)) := by go_grown
  have HB1 := Lib.hid (hb.below G8)
  have HB2 := Lib.hid (hb2.below G8)
  have HB3 := Lib.hid (hb3.below G8)
  have HG8 := Lib.hid G8
  have HC := Lib.hid C1
  have HD := Lib.hid C2
  have z8 : ((w.alloc (.cells #[.slice A n c, .slice A2 n2 c2, .int .i64 Ac, .int .i64 Pe, .slice A3 m c3] 25)).alloc (.cells #[.slice none 0 0, .slice none 0 0, .int .i64 0, .int .i64 0, .slice none 0 0] 25)).heap.size = w.heap.size + 2 := by simp
  have HZ8 := Lib.hid z8
  clear C1 C2 G8 z8
  clear hl hl2 hl3 hb hb2 hb3 hv vc hWn v1' v2' v3' v7' hb3w
  go_enter Try.func20, Try.ntmps20
  go_wp2_with fail
  refine (KV.out _ HB1.out HB2.out HB3.out).mono ?_
  rintro r w1 ⟨rfl, hb1⟩
  have hz1 := hb1.size
  have hZ := HZ8.out
  have C1 := HC.out.below hb1
  have D1 := HD.out.below hb1
  have HG := Lib.hid (chain HG8.out hb1)
  have HI1 := Lib.hid (HB1.out.below hb1)
  have HI2 := Lib.hid (HB2.out.below hb1)
  have HI3 := Lib.hid (HB3.out.below hb1)
  have HP := Lib.hid C1
  have HQ := Lib.hid D1
  have hw1 : w.heap.size + 2 ≤ w1.heap.size := by omega
  clear C1 D1 hb1 hz1 hZ HB1 HB2 HB3 HG8 HC HD HZ8
  have p0 := HP.out.c 0 rfl
  have p1 := HP.out.c 1 rfl
  have p2 := HP.out.c 2 rfl
  have p3 := HP.out.c 3 rfl
  have p4 := HP.out.c 4 rfl
  have zp := HP.out.1
  have q0 := HQ.out.c 0 rfl
  have q1 := HQ.out.c 1 rfl
  have q2 := HQ.out.c 2 rfl
  have q3 := HQ.out.c 3 rfl
  have q4 := HQ.out.c 4 rfl
  have f0 := HQ.out.f 0 rfl
  have f1 := HQ.out.f 1 rfl
  have f2 := HQ.out.f 2 rfl
  have f3 := HQ.out.f 3 rfl
  have f4 := HQ.out.f 4 rfl
  have zq := HQ.out.1
  go_wp2_with fail
  refine (KC.out _ HI1.out HI2.out HI3.out).mono ?_
  rintro r w2 ⟨v1, v2, v3, b2, b3, rfl, hB2, hB3, hO1, hv1, hO2, hv2, hO3, hbb3, hb2'⟩
  have hv3 : ∀ g, v3.ownBlock = some g → g < w2.heap.size := own_lt hO3
  obtain ⟨X1, k1, rfl, hk1, _, hi1, hf1, hl1⟩ := own_it hO1
  obtain ⟨X2, k2, rfl, hk2, _, hi2, hf2, hl2'⟩ := own_it hO2
  obtain ⟨X3, k3, rfl, hk3, _, hi3, hf3, hl3'⟩ := own_it hO3
  have HQ2 := Lib.hid (HQ.out.below hb2')
  have HG2 := Lib.hid (chain HG.out hb2')
  have hw2 := hb2'.size
  have hwl := HG2.out.size
  have hg2' : ∃ g2, X2 = some ⟨g2, 0, none⟩ := by
    obtain ⟨g, cap, hv, _⟩ := own_form hO2 (by have := HWN.out; omega)
    injection hv with hv
    exact ⟨g, hv⟩
  obtain ⟨g2, rfl⟩ := hg2'
  have hgl : g2 < w2.heap.size := hl2' g2 0 rfl
  have hgb : b2 ≤ g2 := hf2 g2 0 rfl
  have CG := own_cl hO2 (by have := HWN.out; omega)
  have hx1 : ∀ b o, X1 = some ⟨b, o, none⟩ → b < b2 := fun b o e => by subst e; exact hv1 b rfl
  have al : Below w2.heap.size w2 (w2.alloc (.cells #[.slice X1 R.length k1, .slice (some ⟨g2, 0, none⟩) W.length k2, .int .i64 Ac, .int .i64 Pe, .slice X3 ch.length k3] 25)) := (Below.refl _ _).alloc (Nat.le_refl _) _
  have HS := Lib.hid (Cl.new (w := w2) rfl [.slice X1 R.length k1, .slice (some ⟨g2, 0, none⟩) W.length k2, .int .i64 Ac, .int .i64 Pe, .slice X3 ch.length k3] 25)
  have HCG := Lib.hid (CG.below al)
  have HP3 := Lib.hid ((HP.out.below hb2').below al)
  have HQ3 := Lib.hid (HQ2.out.below al)
  have HI13 := Lib.hid (hi1.below al)
  have HI33 := Lib.hid ((HI3.out.below hb2').below al)
  have HG3 := Lib.hid (chain HG2.out al)
  have HX1 := Lib.hid hx1
  have HP2' := Lib.hid (HP.out.below hb2')
  clear p0 p1 p2 p3 p4 q0 q1 q2 q3 q4 f0 f1 f2 f3 f4 zp zq HQ HP HQ2 hi1 hi2 hi3 hO1 hO2 hO3 hv1 hv2 hv3 hb2' hbb3 al hl1 hl2' hl3' KC KV CG hx1 HI1 HI2 HI3 HG HG2
  have r0 := HP2'.out.c 0 rfl
  have r1 := HP2'.out.c 1 rfl
  have r2 := HP2'.out.c 2 rfl
  have r3 := HP2'.out.c 3 rfl
  have r4 := HP2'.out.c 4 rfl
  have zr := HP2'.out.1
  go_upto_region 5 with fail
  clear r0 r1 r2 r3 r4 zr HP2'
  go_loopg [5] m (fun gk v wr => ∃ k : Nat, k ≤ m ∧ m - k ≤ gk ∧ v = .int .i64 k ∧ Cl w2.heap.size wr [.slice X1 R.length k1, .slice (some ⟨g2, 0, none⟩) W.length k2, .int .i64 Ac, .int .i64 Pe, .slice X3 ch.length k3] ∧ Cl g2 wr ((apC W (ch.take k)).map (Value.int .i64)) ∧ Cl w.heap.size wr [.slice A n c, .slice A2 n2 c2, .int .i64 Ac, .int .i64 Pe, .slice A3 m c3] ∧ Cl (w.heap.size + 1) wr [.slice none 0 0, .slice none 0 0, .int .i64 0, .int .i64 0, .slice none 0 0] ∧ Ik .i64 wr X1 R ∧ Ik .i64 wr A3 (flat ch) ∧ Below w.heap.size w wr)
  case atStart => exact ⟨0, by omega, by omega, rfl, HS.out, HCG.out, HP3.out, HQ3.out, HI13.out, HI33.out, HG3.out⟩
  case round =>
    clear HS HCG HP3 HQ3 HI13 HI33 HG3
    obtain ⟨k, hk, hgk, rfl, hS, hG, hP, hQ, hi1, hi3, hg⟩ := hrel
    by_cases hkl : k < m
    · obtain ⟨b3', o3, rfl, hbl3⟩ := hi3.addr (by rw [flat_len, HL3.out]; omega)
      have hb3l : b3' < w.heap.size := HB3W.out b3' o3 rfl (by rw [flat_len, HL3.out]; omega)
      have hip : k < ch.length := by rw [HL3.out]; exact hkl
      obtain ⟨p, hp⟩ : ∃ p, ch[k]? = some p := ⟨_, List.getElem?_eq_getElem hip⟩
      obtain ⟨u1, u2⟩ := flat_get ch k p hp
      obtain ⟨c1, c2', c3'⟩ := allC_at HVC.out hp
      have hta := apC_take (W := W) hp
      obtain ⟨x, y⟩ := p
      simp only at c1 c2' hta u1 u2
      obtain ⟨a, rfl⟩ : ∃ a : Nat, x = a := ⟨x.toNat, by omega⟩
      rw [Int.toNat_natCast] at hta
      have han : a < n := by have := HRN.out; omega
      obtain ⟨b', o', e', _, hcell⟩ := id hi3 (by rw [flat_len]; omega)
      injection e' with e'; injection e' with e1 e2'
      subst e1; subst e2'
      have s1 := hcell _ _ u1
      have s2 := hcell _ _ u2
      rw [← Nat.add_assoc] at s2
      have hWl : a < (apC W (ch.take k)).length := by rw [apC_len, HWN.out]; exact han
      have s3 := hG.2 a _ (by rw [List.getElem?_map, List.getElem?_eq_getElem hWl]; rfl)
      obtain ⟨s3, s4⟩ := s3
      obtain ⟨old, hold⟩ : ∃ old, old = (apC W (ch.take k))[a] := ⟨_, rfl⟩
      rw [← hold] at s3
      have HTA := Lib.hid hta
      have HS := Lib.hid hS
      have HG := Lib.hid hG
      have HP := Lib.hid hP
      have HQ := Lib.hid hQ
      have HI1 := Lib.hid hi1
      have HI3 := Lib.hid hi3
      have HGG := Lib.hid hg
      have hWa : (a : Int) < (W.length : Int) := by have := HWN.out; omega
      have hgr := hG.1
      have hsr := hS.1
      clear hp u1 u2 c1 c2' c3' hta hcell hWl hold hip hS hG hP hQ hi1 hi3 hg
      have p0 := HS.out.c 0 rfl
      have p1 := HS.out.c 1 rfl
      have p2 := HS.out.c 2 rfl
      have p3 := HS.out.c 3 rfl
      have p4 := HS.out.c 4 rfl
      have r0 := HP.out.c 0 rfl
      have r1 := HP.out.c 1 rfl
      have r2 := HP.out.c 2 rfl
      have r3 := HP.out.c 3 rfl
      have r4 := HP.out.c 4 rfl
      go_upto_region 7 with fail
      go_region
      obtain ⟨w5, hw5⟩ : ∃ wx, wx = ((wr.setCell ⟨g2, a, none⟩ (.int .i64 y)).drew) := ⟨_, rfl⟩
      have al5 : Below (wr.setCell ⟨g2, a, none⟩ (.int .i64 y)).heap.size (wr.setCell ⟨g2, a, none⟩ (.int .i64 y)) w5 := by rw [hw5]; exact (Below.refl _ _).drew
      rw [← hw5]
      have hne1 : g2 ≠ w2.heap.size := by omega
      have hne2 : g2 ≠ w.heap.size := by omega
      have hne3 : g2 ≠ w.heap.size + 1 := by omega
      have S5 := (HS.out.far hne1 a (.int .i64 y)).below al5
      have G5 := (HG.out.seti a y).below al5
      rw [← HTA.out] at G5
      have P5 := (HP.out.far hne2 a (.int .i64 y)).below al5
      have Q5 := (HQ.out.far hne3 a (.int .i64 y)).below al5
      have I15 := (HI1.out.set g2 (fun b o e => by have := HX1.out b o e; omega) a (.int .i64 y)).below al5
      have I35 := (HI3.out.set g2 (fun b o e => by injection e with e; injection e with e _; omega) a (.int .i64 y)).below al5
      have B5 := chain (HGG.out.setCell (p := ⟨g2, a, none⟩) (by show w.heap.size ≤ g2; omega) (.int .i64 y)) al5
      have HR := Lib.hid (show Cl w2.heap.size w5 [.slice X1 R.length k1, .slice (some ⟨g2, 0, none⟩) W.length k2, .int .i64 Ac, .int .i64 Pe, .slice X3 ch.length k3] ∧ Cl g2 w5 ((apC W (ch.take (k + 1))).map (Value.int .i64)) ∧ Cl w.heap.size w5 [.slice A n c, .slice A2 n2 c2, .int .i64 Ac, .int .i64 Pe, .slice (some ⟨b3', o3, none⟩) m c3] ∧ Cl (w.heap.size + 1) w5 [.slice none 0 0, .slice none 0 0, .int .i64 0, .int .i64 0, .slice none 0 0] ∧ Ik .i64 w5 X1 R ∧ Ik .i64 w5 (some ⟨b3', o3, none⟩) (flat ch) ∧ Below w.heap.size w w5 from ⟨S5, G5, P5, Q5, I15, I35, B5⟩)
      clear hw5 al5 S5 G5 P5 Q5 I15 I35 B5 p0 p1 p2 p3 p4 r0 r1 r2 r3 r4 s1 s2 s3 s4 hne1 hne2 hne3
      go_wp2_with fail
      go_roundg (m - (k + 1))
      case measure => omega
      case rel => exact ⟨k + 1, by omega, by omega, by go_num, HR.out⟩
    · obtain rfl : k = m := by omega
      have hch : ch.take k = ch := by rw [← HL3.out, List.take_length]
      rw [hch] at hG
      have HS := Lib.hid hS
      have HG := Lib.hid hG
      have HP := Lib.hid hP
      have HQ := Lib.hid hQ
      have HI1 := Lib.hid hi1
      have HGG := Lib.hid hg
      have hgr := hG.1
      have hsr := hS.1
      clear hS hG hP hQ hi1 hi3 hg hch hkl hgk
      have p0 := HS.out.c 0 rfl
      have p1 := HS.out.c 1 rfl
      have p2 := HS.out.c 2 rfl
      have p3 := HS.out.c 3 rfl
      have p4 := HS.out.c 4 rfl
      have e0 := HS.out.f 0 rfl
      have e1 := HS.out.f 1 rfl
      have e2 := HS.out.f 2 rfl
      have e3 := HS.out.f 3 rfl
      have e4 := HS.out.f 4 rfl
      have r0 := HP.out.c 0 rfl
      have r1 := HP.out.c 1 rfl
      have r2 := HP.out.c 2 rfl
      have r3 := HP.out.c 3 rfl
      have r4 := HP.out.c 4 rfl
      have q0 := HQ.out.c 0 rfl
      have q1 := HQ.out.c 1 rfl
      have q2 := HQ.out.c 2 rfl
      have q3 := HQ.out.c 3 rfl
      have q4 := HQ.out.c 4 rfl
      have f0 := HQ.out.f 0 rfl
      have f1 := HQ.out.f 1 rfl
      have f2 := HQ.out.f 2 rfl
      have f3 := HQ.out.f 3 rfl
      have f4 := HQ.out.f 4 rfl
      have zq := HQ.out.1
      have zp := HS.out.1
      by_cases hpe : 0 ≤ Pe
      · have HAE := Lib.hid (show AcN = Pe from by rw [HAC.out, if_pos hpe])
        have dP : decide (0 ≤ Pe) = true := by simp [hpe]
        clear hpe
        go_upto_region 12 with fail
        obtain ⟨w6, hw6⟩ : ∃ wx, wx = (((wr.setCell ⟨w2.heap.size, 2, none⟩ (.int .i64 Pe)).setCell ⟨w2.heap.size, 3, none⟩ (.int .i64 (-1))).setCell ⟨w2.heap.size, 4, none⟩ (.slice none 0 0)) := ⟨_, rfl⟩
        have C6 : Cl w2.heap.size w6 [.slice X1 R.length k1, .slice (some ⟨g2, 0, none⟩) W.length k2, .int .i64 Pe, .int .i64 (-1), .slice none 0 0] := by rw [hw6]; exact (((HS.out.set 2 (.int .i64 Pe)).set 3 (.int .i64 (-1))).set 4 (.slice none 0 0))
        have D6 : Cl (w.heap.size + 1) w6 [.slice none 0 0, .slice none 0 0, .int .i64 0, .int .i64 0, .slice none 0 0] := by rw [hw6]; exact (((HQ.out.far (by omega) 2 (.int .i64 Pe)).far (by omega) 3 (.int .i64 (-1))).far (by omega) 4 (.slice none 0 0))
        have HG6 : Hid (Below w.heap.size w w6) := Lib.hid (by rw [hw6]; exact (((HGG.out.setCell (p := ⟨w2.heap.size, 2, none⟩) (by show w.heap.size ≤ w2.heap.size; omega) (.int .i64 Pe)).setCell (p := ⟨w2.heap.size, 3, none⟩) (by show w.heap.size ≤ w2.heap.size; omega) (.int .i64 (-1))).setCell (p := ⟨w2.heap.size, 4, none⟩) (by show w.heap.size ≤ w2.heap.size; omega) (.slice none 0 0)))
        have HI6 : Hid (Ik .i64 w6 X1 R) := Lib.hid (by rw [hw6]; exact (((HI1.out.set w2.heap.size (fun b o e => by have := HX1.out b o e; omega) 2 (.int .i64 Pe)).set w2.heap.size (fun b o e => by have := HX1.out b o e; omega) 3 (.int .i64 (-1))).set w2.heap.size (fun b o e => by have := HX1.out b o e; omega) 4 (.slice none 0 0)))
        have HW6 : Hid (Ik .i64 w6 (some ⟨g2, 0, none⟩) (apC W ch)) := Lib.hid (by rw [hw6]; exact Cl.ik (((HG.out.far (by omega) 2 (.int .i64 Pe)).far (by omega) 3 (.int .i64 (-1))).far (by omega) 4 (.slice none 0 0)))
        rw [← hw6]
        clear hw6 p0 p1 p2 p3 p4 e0 e1 e2 e3 e4 r0 r1 r2 r3 r4 q0 q1 q2 q3 q4 f0 f1 f2 f3 f4 zp zq HS HG HP HQ HI1 HGG
        have p0 := C6.c 0 rfl
        have p1 := C6.c 1 rfl
        have p2 := C6.c 2 rfl
        have p3 := C6.c 3 rfl
        have p4 := C6.c 4 rfl
        have zp := C6.1
        have q0 := D6.c 0 rfl
        have q1 := D6.c 1 rfl
        have q2 := D6.c 2 rfl
        have q3 := D6.c 3 rfl
        have q4 := D6.c 4 rfl
        have f0 := D6.f 0 rfl
        have f1 := D6.f 1 rfl
        have f2 := D6.f 2 rfl
        have f3 := D6.f 3 rfl
        have f4 := D6.f 4 rfl
        have zq := D6.1
        clear C6 D6
        go_wp2_with fail
        refine bodyPost_ret (v := .tuple #[.agg #[.slice X1 R.length k1, .slice (some ⟨g2, 0, none⟩) W.length k2, .int .i64 Pe, .int .i64 (-1), .slice none 0 0], .int .i64 0]) (by simp [results, Try.results20, go_sem, q0, f0, q1, f1, q2, f2, q3, f3, q4, f4, zq] <;> first | rfl | ((repeat' apply And.intro) <;> rfl)) rfl ⟨X1, R.length, k1, some ⟨g2, 0, none⟩, W.length, k2, none, 0, 0, by rw [HAE.out], rfl, hk1, ?_, apC_len W ch, hk2, ?_, rfl, Nat.le_refl _, Ik.nil _ _ _, fr_le hf1 (by omega), fr_at (by omega), Fr.none _, below_set5 HG6.out (Nat.le_succ _) _ _ _ _ _⟩
        · exact HI6.out.fr5 hf1 (by omega) _ _ _ _ _
        · exact HW6.out.fr5 (fr_at hgb) (by omega) _ _ _ _ _
      · have HAE := Lib.hid (show AcN = Ac from by rw [HAC.out, if_neg hpe])
        have dP : decide (0 ≤ Pe) = false := by simp [hpe]
        clear hpe
        go_upto_region 12 with fail
        obtain ⟨w6, hw6⟩ : ∃ wx, wx = ((wr.setCell ⟨w2.heap.size, 3, none⟩ (.int .i64 (-1))).setCell ⟨w2.heap.size, 4, none⟩ (.slice none 0 0)) := ⟨_, rfl⟩
        have C6 : Cl w2.heap.size w6 [.slice X1 R.length k1, .slice (some ⟨g2, 0, none⟩) W.length k2, .int .i64 Ac, .int .i64 (-1), .slice none 0 0] := by rw [hw6]; exact ((HS.out.set 3 (.int .i64 (-1))).set 4 (.slice none 0 0))
        have D6 : Cl (w.heap.size + 1) w6 [.slice none 0 0, .slice none 0 0, .int .i64 0, .int .i64 0, .slice none 0 0] := by rw [hw6]; exact ((HQ.out.far (by omega) 3 (.int .i64 (-1))).far (by omega) 4 (.slice none 0 0))
        have HG6 : Hid (Below w.heap.size w w6) := Lib.hid (by rw [hw6]; exact ((HGG.out.setCell (p := ⟨w2.heap.size, 3, none⟩) (by show w.heap.size ≤ w2.heap.size; omega) (.int .i64 (-1))).setCell (p := ⟨w2.heap.size, 4, none⟩) (by show w.heap.size ≤ w2.heap.size; omega) (.slice none 0 0)))
        have HI6 : Hid (Ik .i64 w6 X1 R) := Lib.hid (by rw [hw6]; exact ((HI1.out.set w2.heap.size (fun b o e => by have := HX1.out b o e; omega) 3 (.int .i64 (-1))).set w2.heap.size (fun b o e => by have := HX1.out b o e; omega) 4 (.slice none 0 0)))
        have HW6 : Hid (Ik .i64 w6 (some ⟨g2, 0, none⟩) (apC W ch)) := Lib.hid (by rw [hw6]; exact Cl.ik ((HG.out.far (by omega) 3 (.int .i64 (-1))).far (by omega) 4 (.slice none 0 0)))
        rw [← hw6]
        clear hw6 p0 p1 p2 p3 p4 e0 e1 e2 e3 e4 r0 r1 r2 r3 r4 q0 q1 q2 q3 q4 f0 f1 f2 f3 f4 zp zq HS HG HP HQ HI1 HGG
        have p0 := C6.c 0 rfl
        have p1 := C6.c 1 rfl
        have p2 := C6.c 2 rfl
        have p3 := C6.c 3 rfl
        have p4 := C6.c 4 rfl
        have zp := C6.1
        have q0 := D6.c 0 rfl
        have q1 := D6.c 1 rfl
        have q2 := D6.c 2 rfl
        have q3 := D6.c 3 rfl
        have q4 := D6.c 4 rfl
        have f0 := D6.f 0 rfl
        have f1 := D6.f 1 rfl
        have f2 := D6.f 2 rfl
        have f3 := D6.f 3 rfl
        have f4 := D6.f 4 rfl
        have zq := D6.1
        clear C6 D6
        go_wp2_with fail
        refine bodyPost_ret (v := .tuple #[.agg #[.slice X1 R.length k1, .slice (some ⟨g2, 0, none⟩) W.length k2, .int .i64 Ac, .int .i64 (-1), .slice none 0 0], .int .i64 0]) (by simp [results, Try.results20, go_sem, q0, f0, q1, f1, q2, f2, q3, f3, q4, f4, zq] <;> first | rfl | ((repeat' apply And.intro) <;> rfl)) rfl ⟨X1, R.length, k1, some ⟨g2, 0, none⟩, W.length, k2, none, 0, 0, by rw [HAE.out], rfl, hk1, ?_, apC_len W ch, hk2, ?_, rfl, Nat.le_refl _, Ik.nil _ _ _, fr_le hf1 (by omega), fr_at (by omega), Fr.none _, below_set5 HG6.out (Nat.le_succ _) _ _ _ _ _⟩
        · exact HI6.out.fr5 hf1 (by omega) _ _ _ _ _
        · exact HW6.out.fr5 (fr_at hgb) (by omega) _ _ _ _ _
end Go.Proofs.Ytamajedopofcoaa
