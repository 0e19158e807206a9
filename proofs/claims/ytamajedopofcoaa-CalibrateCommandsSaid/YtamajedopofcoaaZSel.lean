/-
  The contract of Select. No condition but the slices' shape.
-/
import Derived.Test.YtamajedopofcoaaZB
set_option linter.unusedVariables false
set_option linter.unusedSimpArgs false
namespace Go.Proofs.Ytamajedopofcoaa
open Go.RowKit
set_option maxRecDepth 100000 in
set_option maxHeartbeats 16000000 in
theorem sel17_no (A : Option Addr) (n c : Nat) (A2 : Option Addr) (n2 c2 : Nat) (Ac Pe : Int) (A3 : Option Addr) (m c3 : Nat) (R W : List Int) (ch : List (Int × Int)) (g : Int) (w : World) (hl : R.length = n) (hb : Ik .i64 w A R) (hc : n ≤ c) (hl2 : W.length = n2) (hb2 : Ik .i64 w A2 W) (hc2 : n2 ≤ c2) (hl3 : ch.length = m) (hb3 : Ik .i64 w A3 (flat ch)) (hc3 : m ≤ c3) (hs : n ≤ 5000) (hs2 : n2 ≤ 5000) (hs3 : m ≤ 5000) (hv : vP R W Ac Pe ch = false) : Calls Try.prog 17 #[.agg #[.slice A n c, .slice A2 n2 c2, .int .i64 Ac, .int .i64 Pe, .slice A3 m c3], .int .i64 g] w (PO pz 1 w) := by
  have KV := fun w h h2 h3 => valid11 A n c A2 n2 c2 Ac Pe A3 m c3 R W ch w hl h hc hl2 h2 hc2 hl3 h3 hc3 hs hs2 hs3
  rw [hv] at KV
  replace KV := Lib.hid KV
  have C1 := (Cl.new (w := w) rfl [.slice A n c, .slice A2 n2 c2, .int .i64 Ac, .int .i64 Pe, .slice A3 m c3] 25).below ((Below.refl _ _).alloc (Nat.le_refl _) (.cells #[.slice none 0 0, .slice none 0 0, .int .i64 0, .int .i64 0, .slice none 0 0] 25))
  have C2 := Cl.new (P := w.heap.size + 1) (w := w.alloc (.cells #[.slice A n c, .slice A2 n2 c2, .int .i64 Ac, .int .i64 Pe, .slice A3 m c3] 25)) (by simp) [.slice none 0 0, .slice none 0 0, .int .i64 0, .int .i64 0, .slice none 0 0] 25
  have G8 : Below w.heap.size w ((w.alloc (.cells #[.slice A n c, .slice A2 n2 c2, .int .i64 Ac, .int .i64 Pe, .slice A3 m c3] 25)).alloc (.cells #[.slice none 0 0, .slice none 0 0, .int .i64 0, .int .i64 0, .slice none 0 0] 25)) := by go_grown
  have HB1 := Lib.hid (hb.below G8)
  have HB2 := Lib.hid (hb2.below G8)
  have HB3 := Lib.hid (hb3.below G8)
  have HG8 := Lib.hid G8
  have HC := Lib.hid C1
  have HD := Lib.hid C2
  have z8 : ((w.alloc (.cells #[.slice A n c, .slice A2 n2 c2, .int .i64 Ac, .int .i64 Pe, .slice A3 m c3] 25)).alloc (.cells #[.slice none 0 0, .slice none 0 0, .int .i64 0, .int .i64 0, .slice none 0 0] 25)).heap.size = w.heap.size + 2 := by simp
  have HZ8 := Lib.hid z8
  clear C1 C2 G8 z8
  clear hl hl2 hl3 hb hb2 hb3 hv
  go_enter Try.func17, Try.ntmps17
  go_wp2_with fail
  refine (KV.out _ HB1.out HB2.out HB3.out).mono ?_
  rintro r w1 ⟨rfl, hb1⟩
  have hz1 := hb1.size
  have hZ := HZ8.out
  have C1 := HC.out.below hb1
  have D1 := HD.out.below hb1
  have HG := Lib.hid (chain HG8.out hb1)
  have HI1 := Lib.hid (HB1.out.below hb1)
  have HI2 := Lib.hid (HB2.out.below hb1)
  have HI3 := Lib.hid (HB3.out.below hb1)
  have HP := Lib.hid C1
  have HQ := Lib.hid D1
  have hw1 : w.heap.size + 2 ≤ w1.heap.size := by omega
  clear C1 D1 hb1 hz1 hZ HB1 HB2 HB3 HG8 HC HD HZ8
  have p0 := HP.out.c 0 rfl
  have p1 := HP.out.c 1 rfl
  have p2 := HP.out.c 2 rfl
  have p3 := HP.out.c 3 rfl
  have p4 := HP.out.c 4 rfl
  have zp := HP.out.1
  have q0 := HQ.out.c 0 rfl
  have q1 := HQ.out.c 1 rfl
  have q2 := HQ.out.c 2 rfl
  have q3 := HQ.out.c 3 rfl
  have q4 := HQ.out.c 4 rfl
  have f0 := HQ.out.f 0 rfl
  have f1 := HQ.out.f 1 rfl
  have f2 := HQ.out.f 2 rfl
  have f3 := HQ.out.f 3 rfl
  have f4 := HQ.out.f 4 rfl
  have zq := HQ.out.1
  go_wp2_with fail
  refine bodyPost_ret (v := .tuple #[.agg #[.slice none 0 0, .slice none 0 0, .int .i64 0, .int .i64 0, .slice none 0 0], .int .i64 1]) (by simp [results, Try.results17, go_sem, q0, f0, q1, f1, q2, f2, q3, f3, q4, f4, zq] <;> first | rfl | ((repeat' apply And.intro) <;> rfl)) rfl (PO.zero rfl (below_set5 HG.out (Nat.le_succ _) _ _ _ _ _))
set_option maxRecDepth 100000 in
set_option maxHeartbeats 16000000 in
theorem sel17_bad (A : Option Addr) (n c : Nat) (A2 : Option Addr) (n2 c2 : Nat) (Ac Pe : Int) (A3 : Option Addr) (m c3 : Nat) (R W : List Int) (ch : List (Int × Int)) (g : Int) (w : World) (hl : R.length = n) (hb : Ik .i64 w A R) (hc : n ≤ c) (hl2 : W.length = n2) (hb2 : Ik .i64 w A2 W) (hc2 : n2 ≤ c2) (hl3 : ch.length = m) (hb3 : Ik .i64 w A3 (flat ch)) (hc3 : m ≤ c3) (hs : n ≤ 5000) (hs2 : n2 ≤ 5000) (hs3 : m ≤ 5000) (hv : vP R W Ac Pe ch = true) (hg : ¬ (g = 0 ∨ g = 1)) : Calls Try.prog 17 #[.agg #[.slice A n c, .slice A2 n2 c2, .int .i64 Ac, .int .i64 Pe, .slice A3 m c3], .int .i64 g] w (PO pz 2 w) := by
  have KV := fun w h h2 h3 => valid11 A n c A2 n2 c2 Ac Pe A3 m c3 R W ch w hl h hc hl2 h2 hc2 hl3 h3 hc3 hs hs2 hs3
  rw [hv] at KV
  replace KV := Lib.hid KV
  obtain hg0 | hg1 : g < 0 ∨ 1 < g := by omega
  · have e0 : (g != 0) = true := by simp; omega
    have e1 : (g != 1) = true := by simp; omega
    have e2 : (g == 0) = false := by simp; omega
    have e3 : (g == 1) = false := by simp; omega
    have e4 : decide (g = 0) = false := by simp; omega
    have e5 : decide (g = 1) = false := by simp; omega
    have C1 := (Cl.new (w := w) rfl [.slice A n c, .slice A2 n2 c2, .int .i64 Ac, .int .i64 Pe, .slice A3 m c3] 25).below ((Below.refl _ _).alloc (Nat.le_refl _) (.cells #[.slice none 0 0, .slice none 0 0, .int .i64 0, .int .i64 0, .slice none 0 0] 25))
    have C2 := Cl.new (P := w.heap.size + 1) (w := w.alloc (.cells #[.slice A n c, .slice A2 n2 c2, .int .i64 Ac, .int .i64 Pe, .slice A3 m c3] 25)) (by simp) [.slice none 0 0, .slice none 0 0, .int .i64 0, .int .i64 0, .slice none 0 0] 25
    have G8 : Below w.heap.size w ((w.alloc (.cells #[.slice A n c, .slice A2 n2 c2, .int .i64 Ac, .int .i64 Pe, .slice A3 m c3] 25)).alloc (.cells #[.slice none 0 0, .slice none 0 0, .int .i64 0, .int .i64 0, .slice none 0 0] 25)) := by go_grown
    have HB1 := Lib.hid (hb.below G8)
    have HB2 := Lib.hid (hb2.below G8)
    have HB3 := Lib.hid (hb3.below G8)
    have HG8 := Lib.hid G8
    have HC := Lib.hid C1
    have HD := Lib.hid C2
    have z8 : ((w.alloc (.cells #[.slice A n c, .slice A2 n2 c2, .int .i64 Ac, .int .i64 Pe, .slice A3 m c3] 25)).alloc (.cells #[.slice none 0 0, .slice none 0 0, .int .i64 0, .int .i64 0, .slice none 0 0] 25)).heap.size = w.heap.size + 2 := by simp
    have HZ8 := Lib.hid z8
    clear C1 C2 G8 z8
    clear hl hl2 hl3 hb hb2 hb3 hv hg hg0
    go_enter Try.func17, Try.ntmps17
    go_wp2_with fail
    refine (KV.out _ HB1.out HB2.out HB3.out).mono ?_
    rintro r w1 ⟨rfl, hb1⟩
    have hz1 := hb1.size
    have hZ := HZ8.out
    have C1 := HC.out.below hb1
    have D1 := HD.out.below hb1
    have HG := Lib.hid (chain HG8.out hb1)
    have HI1 := Lib.hid (HB1.out.below hb1)
    have HI2 := Lib.hid (HB2.out.below hb1)
    have HI3 := Lib.hid (HB3.out.below hb1)
    have HP := Lib.hid C1
    have HQ := Lib.hid D1
    have hw1 : w.heap.size + 2 ≤ w1.heap.size := by omega
    clear C1 D1 hb1 hz1 hZ HB1 HB2 HB3 HG8 HC HD HZ8
    have p0 := HP.out.c 0 rfl
    have p1 := HP.out.c 1 rfl
    have p2 := HP.out.c 2 rfl
    have p3 := HP.out.c 3 rfl
    have p4 := HP.out.c 4 rfl
    have zp := HP.out.1
    have q0 := HQ.out.c 0 rfl
    have q1 := HQ.out.c 1 rfl
    have q2 := HQ.out.c 2 rfl
    have q3 := HQ.out.c 3 rfl
    have q4 := HQ.out.c 4 rfl
    have f0 := HQ.out.f 0 rfl
    have f1 := HQ.out.f 1 rfl
    have f2 := HQ.out.f 2 rfl
    have f3 := HQ.out.f 3 rfl
    have f4 := HQ.out.f 4 rfl
    have zq := HQ.out.1
    go_wp2_with fail
    refine bodyPost_ret (v := .tuple #[.agg #[.slice none 0 0, .slice none 0 0, .int .i64 0, .int .i64 0, .slice none 0 0], .int .i64 2]) (by simp [results, Try.results17, go_sem, q0, f0, q1, f1, q2, f2, q3, f3, q4, f4, zq] <;> first | rfl | ((repeat' apply And.intro) <;> rfl)) rfl (PO.zero rfl (below_set5 HG.out (Nat.le_succ _) _ _ _ _ _))
  · have e0 : (g != 0) = true := by simp; omega
    have e1 : (g != 1) = true := by simp; omega
    have e2 : (g == 0) = false := by simp; omega
    have e3 : (g == 1) = false := by simp; omega
    have e4 : decide (g = 0) = false := by simp; omega
    have e5 : decide (g = 1) = false := by simp; omega
    have C1 := (Cl.new (w := w) rfl [.slice A n c, .slice A2 n2 c2, .int .i64 Ac, .int .i64 Pe, .slice A3 m c3] 25).below ((Below.refl _ _).alloc (Nat.le_refl _) (.cells #[.slice none 0 0, .slice none 0 0, .int .i64 0, .int .i64 0, .slice none 0 0] 25))
    have C2 := Cl.new (P := w.heap.size + 1) (w := w.alloc (.cells #[.slice A n c, .slice A2 n2 c2, .int .i64 Ac, .int .i64 Pe, .slice A3 m c3] 25)) (by simp) [.slice none 0 0, .slice none 0 0, .int .i64 0, .int .i64 0, .slice none 0 0] 25
    have G8 : Below w.heap.size w ((w.alloc (.cells #[.slice A n c, .slice A2 n2 c2, .int .i64 Ac, .int .i64 Pe, .slice A3 m c3] 25)).alloc (.cells #[.slice none 0 0, .slice none 0 0, .int .i64 0, .int .i64 0, .slice none 0 0] 25)) := by go_grown
    have HB1 := Lib.hid (hb.below G8)
    have HB2 := Lib.hid (hb2.below G8)
    have HB3 := Lib.hid (hb3.below G8)
    have HG8 := Lib.hid G8
    have HC := Lib.hid C1
    have HD := Lib.hid C2
    have z8 : ((w.alloc (.cells #[.slice A n c, .slice A2 n2 c2, .int .i64 Ac, .int .i64 Pe, .slice A3 m c3] 25)).alloc (.cells #[.slice none 0 0, .slice none 0 0, .int .i64 0, .int .i64 0, .slice none 0 0] 25)).heap.size = w.heap.size + 2 := by simp
    have HZ8 := Lib.hid z8
    clear C1 C2 G8 z8
    clear hl hl2 hl3 hb hb2 hb3 hv hg hg1
    go_enter Try.func17, Try.ntmps17
    go_wp2_with fail
    refine (KV.out _ HB1.out HB2.out HB3.out).mono ?_
    rintro r w1 ⟨rfl, hb1⟩
    have hz1 := hb1.size
    have hZ := HZ8.out
    have C1 := HC.out.below hb1
    have D1 := HD.out.below hb1
    have HG := Lib.hid (chain HG8.out hb1)
    have HI1 := Lib.hid (HB1.out.below hb1)
    have HI2 := Lib.hid (HB2.out.below hb1)
    have HI3 := Lib.hid (HB3.out.below hb1)
    have HP := Lib.hid C1
    have HQ := Lib.hid D1
    have hw1 : w.heap.size + 2 ≤ w1.heap.size := by omega
    clear C1 D1 hb1 hz1 hZ HB1 HB2 HB3 HG8 HC HD HZ8
    have p0 := HP.out.c 0 rfl
    have p1 := HP.out.c 1 rfl
    have p2 := HP.out.c 2 rfl
    have p3 := HP.out.c 3 rfl
    have p4 := HP.out.c 4 rfl
    have zp := HP.out.1
    have q0 := HQ.out.c 0 rfl
    have q1 := HQ.out.c 1 rfl
    have q2 := HQ.out.c 2 rfl
    have q3 := HQ.out.c 3 rfl
    have q4 := HQ.out.c 4 rfl
    have f0 := HQ.out.f 0 rfl
    have f1 := HQ.out.f 1 rfl
    have f2 := HQ.out.f 2 rfl
    have f3 := HQ.out.f 3 rfl
    have f4 := HQ.out.f 4 rfl
    have zq := HQ.out.1
    go_wp2_with fail
    refine bodyPost_ret (v := .tuple #[.agg #[.slice none 0 0, .slice none 0 0, .int .i64 0, .int .i64 0, .slice none 0 0], .int .i64 2]) (by simp [results, Try.results17, go_sem, q0, f0, q1, f1, q2, f2, q3, f3, q4, f4, zq] <;> first | rfl | ((repeat' apply And.intro) <;> rfl)) rfl (PO.zero rfl (below_set5 HG.out (Nat.le_succ _) _ _ _ _ _))
set_option maxRecDepth 100000 in
set_option maxHeartbeats 16000000 in
theorem sel17_ok (A : Option Addr) (n c : Nat) (A2 : Option Addr) (n2 c2 : Nat) (Ac Pe : Int) (A3 : Option Addr) (m c3 : Nat) (R W : List Int) (ch : List (Int × Int)) (g : Int) (w : World) (hl : R.length = n) (hb : Ik .i64 w A R) (hc : n ≤ c) (hl2 : W.length = n2) (hb2 : Ik .i64 w A2 W) (hc2 : n2 ≤ c2) (hl3 : ch.length = m) (hb3 : Ik .i64 w A3 (flat ch)) (hc3 : m ≤ c3) (hs : n ≤ 5000) (hs2 : n2 ≤ 5000) (hs3 : m ≤ 5000) (hv : vP R W Ac Pe ch = true) (hg : g = 0 ∨ g = 1) : Calls Try.prog 17 #[.agg #[.slice A n c, .slice A2 n2 c2, .int .i64 Ac, .int .i64 Pe, .slice A3 m c3], .int .i64 g] w (PO ⟨R, W, Ac, g, ch⟩ 0 w) := by
  have KV := fun w h h2 h3 => valid11 A n c A2 n2 c2 Ac Pe A3 m c3 R W ch w hl h hc hl2 h2 hc2 hl3 h3 hc3 hs hs2 hs3
  rw [hv] at KV
  replace KV := Lib.hid KV
  have KC := fun w h h2 h3 => copy36 A n c A2 n2 c2 Ac Pe A3 m c3 R W ch w hl h hc hl2 h2 hc2 hl3 h3 hc3 hs hs2 hs3
  replace KC := Lib.hid KC
  rcases hg with hg | hg
  · have e0 : (g != 0) = false := by simp; omega
    have e2 : (g == 0) = true := by simp; omega
    have e4 : decide (g = 0) = true := by simp; omega
    have C1 := (Cl.new (w := w) rfl [.slice A n c, .slice A2 n2 c2, .int .i64 Ac, .int .i64 Pe, .slice A3 m c3] 25).below ((Below.refl _ _).alloc (Nat.le_refl _) (.cells #[.slice none 0 0, .slice none 0 0, .int .i64 0, .int .i64 0, .slice none 0 0] 25))
    have C2 := Cl.new (P := w.heap.size + 1) (w := w.alloc (.cells #[.slice A n c, .slice A2 n2 c2, .int .i64 Ac, .int .i64 Pe, .slice A3 m c3] 25)) (by simp) [.slice none 0 0, .slice none 0 0, .int .i64 0, .int .i64 0, .slice none 0 0] 25
    have G8 : Below w.heap.size w ((w.alloc (.cells #[.slice A n c, .slice A2 n2 c2, .int .i64 Ac, .int .i64 Pe, .slice A3 m c3] 25)).alloc (.cells #[.slice none 0 0, .slice none 0 0, .int .i64 0, .int .i64 0, .slice none 0 0] 25)) := by go_grown
    have HB1 := Lib.hid (hb.below G8)
    have HB2 := Lib.hid (hb2.below G8)
    have HB3 := Lib.hid (hb3.below G8)
    have HG8 := Lib.hid G8
    have HC := Lib.hid C1
    have HD := Lib.hid C2
    have z8 : ((w.alloc (.cells #[.slice A n c, .slice A2 n2 c2, .int .i64 Ac, .int .i64 Pe, .slice A3 m c3] 25)).alloc (.cells #[.slice none 0 0, .slice none 0 0, .int .i64 0, .int .i64 0, .slice none 0 0] 25)).heap.size = w.heap.size + 2 := by simp
    have HZ8 := Lib.hid z8
    clear C1 C2 G8 z8
    clear hl hl2 hl3 hb hb2 hb3 hv hg
    go_enter Try.func17, Try.ntmps17
    go_wp2_with fail
    refine (KV.out _ HB1.out HB2.out HB3.out).mono ?_
    rintro r w1 ⟨rfl, hb1⟩
    have hz1 := hb1.size
    have hZ := HZ8.out
    have C1 := HC.out.below hb1
    have D1 := HD.out.below hb1
    have HG := Lib.hid (chain HG8.out hb1)
    have HI1 := Lib.hid (HB1.out.below hb1)
    have HI2 := Lib.hid (HB2.out.below hb1)
    have HI3 := Lib.hid (HB3.out.below hb1)
    have HP := Lib.hid C1
    have HQ := Lib.hid D1
    have hw1 : w.heap.size + 2 ≤ w1.heap.size := by omega
    clear C1 D1 hb1 hz1 hZ HB1 HB2 HB3 HG8 HC HD HZ8
    have p0 := HP.out.c 0 rfl
    have p1 := HP.out.c 1 rfl
    have p2 := HP.out.c 2 rfl
    have p3 := HP.out.c 3 rfl
    have p4 := HP.out.c 4 rfl
    have zp := HP.out.1
    have q0 := HQ.out.c 0 rfl
    have q1 := HQ.out.c 1 rfl
    have q2 := HQ.out.c 2 rfl
    have q3 := HQ.out.c 3 rfl
    have q4 := HQ.out.c 4 rfl
    have f0 := HQ.out.f 0 rfl
    have f1 := HQ.out.f 1 rfl
    have f2 := HQ.out.f 2 rfl
    have f3 := HQ.out.f 3 rfl
    have f4 := HQ.out.f 4 rfl
    have zq := HQ.out.1
    go_wp2_with fail
    refine (KC.out _ HI1.out HI2.out HI3.out).mono ?_
    rintro r w2 ⟨v1, v2, v3, b2, b3, rfl, hB2, hB3, hO1, hv1, hO2, hv2, hO3, hbb3, hb2'⟩
    have hv3 : ∀ g, v3.ownBlock = some g → g < w2.heap.size := own_lt hO3
    obtain ⟨X1, k1, rfl, hk1, _, hi1, hf1, hl1⟩ := own_it hO1
    obtain ⟨X2, k2, rfl, hk2, _, hi2, hf2, hl2'⟩ := own_it hO2
    obtain ⟨X3, k3, rfl, hk3, _, hi3, hf3, hl3'⟩ := own_it hO3
    have HQ2 := Lib.hid (HQ.out.below hb2')
    have HG2 := Lib.hid (chain HG.out hb2')
    have hw2 := hb2'.size
    have hwl := HG2.out.size
    obtain ⟨w3, hw3⟩ : ∃ wx, wx = w2.alloc (.cells #[.slice X1 R.length k1, .slice X2 W.length k2, .int .i64 Ac, .int .i64 g, .slice X3 ch.length k3] 25) := ⟨_, rfl⟩
    have C3 : Cl w2.heap.size w3 [.slice X1 R.length k1, .slice X2 W.length k2, .int .i64 Ac, .int .i64 g, .slice X3 ch.length k3] := by rw [hw3]; exact Cl.new rfl [.slice X1 R.length k1, .slice X2 W.length k2, .int .i64 Ac, .int .i64 g, .slice X3 ch.length k3] 25
    have al : Below w2.heap.size w2 w3 := by rw [hw3]; exact (Below.refl _ _).alloc (Nat.le_refl _) _
    have D3 := HQ2.out.below al
    have HG3 := Lib.hid (chain HG2.out al)
    have HI1 := Lib.hid (hi1.below al)
    have HI2 := Lib.hid (hi2.below al)
    have HI3 := Lib.hid (hi3.below al)
    have HW3 := Lib.hid hw3
    have HC3 := Lib.hid C3
    have HD3 := Lib.hid D3
    clear p0 p1 p2 p3 p4 q0 q1 q2 q3 q4 f0 f1 f2 f3 f4 zp zq HQ HP HQ2 hi1 hi2 hi3 hO1 hO2 hO3 hv1 hv2 hv3 hb2' hbb3 C3 D3 al hw3 hl1 hl2' hl3' KC KV
    go_upto_region 7 with fail
    rw [← HW3.out]
    clear HW3
    have p0 := HC3.out.c 0 rfl
    have p1 := HC3.out.c 1 rfl
    have p2 := HC3.out.c 2 rfl
    have p3 := HC3.out.c 3 rfl
    have p4 := HC3.out.c 4 rfl
    have zp := HC3.out.1
    have q0 := HD3.out.c 0 rfl
    have q1 := HD3.out.c 1 rfl
    have q2 := HD3.out.c 2 rfl
    have q3 := HD3.out.c 3 rfl
    have q4 := HD3.out.c 4 rfl
    have f0 := HD3.out.f 0 rfl
    have f1 := HD3.out.f 1 rfl
    have f2 := HD3.out.f 2 rfl
    have f3 := HD3.out.f 3 rfl
    have f4 := HD3.out.f 4 rfl
    have zq := HD3.out.1
    go_wp2_with fail
    refine bodyPost_ret (v := .tuple #[.agg #[.slice X1 R.length k1, .slice X2 W.length k2, .int .i64 Ac, .int .i64 g, .slice X3 ch.length k3], .int .i64 0]) (by simp [results, Try.results17, go_sem, q0, f0, q1, f1, q2, f2, q3, f3, q4, f4, zq] <;> first | rfl | ((repeat' apply And.intro) <;> rfl)) rfl ⟨X1, R.length, k1, X2, W.length, k2, X3, ch.length, k3, rfl, rfl, hk1, ?_, rfl, hk2, ?_, rfl, hk3, ?_, fr_le hf1 (by omega), fr_le hf2 (by omega), fr_le hf3 (by omega), below_set5 HG3.out (Nat.le_succ _) _ _ _ _ _⟩
    · exact HI1.out.fr5 hf1 (by omega) _ _ _ _ _
    · exact HI2.out.fr5 hf2 (by omega) _ _ _ _ _
    · exact HI3.out.fr5 hf3 (by omega) _ _ _ _ _
  · have e0 : (g != 0) = true := by simp; omega
    have e2 : (g == 0) = false := by simp; omega
    have e4 : decide (g = 0) = false := by simp; omega
    have e1 : (g != 1) = false := by simp; omega
    have e3 : (g == 1) = true := by simp; omega
    have e5 : decide (g = 1) = true := by simp; omega
    have C1 := (Cl.new (w := w) rfl [.slice A n c, .slice A2 n2 c2, .int .i64 Ac, .int .i64 Pe, .slice A3 m c3] 25).below ((Below.refl _ _).alloc (Nat.le_refl _) (.cells #[.slice none 0 0, .slice none 0 0, .int .i64 0, .int .i64 0, .slice none 0 0] 25))
    have C2 := Cl.new (P := w.heap.size + 1) (w := w.alloc (.cells #[.slice A n c, .slice A2 n2 c2, .int .i64 Ac, .int .i64 Pe, .slice A3 m c3] 25)) (by simp) [.slice none 0 0, .slice none 0 0, .int .i64 0, .int .i64 0, .slice none 0 0] 25
    have G8 : Below w.heap.size w ((w.alloc (.cells #[.slice A n c, .slice A2 n2 c2, .int .i64 Ac, .int .i64 Pe, .slice A3 m c3] 25)).alloc (.cells #[.slice none 0 0, .slice none 0 0, .int .i64 0, .int .i64 0, .slice none 0 0] 25)) := by go_grown
    have HB1 := Lib.hid (hb.below G8)
    have HB2 := Lib.hid (hb2.below G8)
    have HB3 := Lib.hid (hb3.below G8)
    have HG8 := Lib.hid G8
    have HC := Lib.hid C1
    have HD := Lib.hid C2
    have z8 : ((w.alloc (.cells #[.slice A n c, .slice A2 n2 c2, .int .i64 Ac, .int .i64 Pe, .slice A3 m c3] 25)).alloc (.cells #[.slice none 0 0, .slice none 0 0, .int .i64 0, .int .i64 0, .slice none 0 0] 25)).heap.size = w.heap.size + 2 := by simp
    have HZ8 := Lib.hid z8
    clear C1 C2 G8 z8
    clear hl hl2 hl3 hb hb2 hb3 hv hg
    go_enter Try.func17, Try.ntmps17
    go_wp2_with fail
    refine (KV.out _ HB1.out HB2.out HB3.out).mono ?_
    rintro r w1 ⟨rfl, hb1⟩
    have hz1 := hb1.size
    have hZ := HZ8.out
    have C1 := HC.out.below hb1
    have D1 := HD.out.below hb1
    have HG := Lib.hid (chain HG8.out hb1)
    have HI1 := Lib.hid (HB1.out.below hb1)
    have HI2 := Lib.hid (HB2.out.below hb1)
    have HI3 := Lib.hid (HB3.out.below hb1)
    have HP := Lib.hid C1
    have HQ := Lib.hid D1
    have hw1 : w.heap.size + 2 ≤ w1.heap.size := by omega
    clear C1 D1 hb1 hz1 hZ HB1 HB2 HB3 HG8 HC HD HZ8
    have p0 := HP.out.c 0 rfl
    have p1 := HP.out.c 1 rfl
    have p2 := HP.out.c 2 rfl
    have p3 := HP.out.c 3 rfl
    have p4 := HP.out.c 4 rfl
    have zp := HP.out.1
    have q0 := HQ.out.c 0 rfl
    have q1 := HQ.out.c 1 rfl
    have q2 := HQ.out.c 2 rfl
    have q3 := HQ.out.c 3 rfl
    have q4 := HQ.out.c 4 rfl
    have f0 := HQ.out.f 0 rfl
    have f1 := HQ.out.f 1 rfl
    have f2 := HQ.out.f 2 rfl
    have f3 := HQ.out.f 3 rfl
    have f4 := HQ.out.f 4 rfl
    have zq := HQ.out.1
    go_wp2_with fail
    refine (KC.out _ HI1.out HI2.out HI3.out).mono ?_
    rintro r w2 ⟨v1, v2, v3, b2, b3, rfl, hB2, hB3, hO1, hv1, hO2, hv2, hO3, hbb3, hb2'⟩
    have hv3 : ∀ g, v3.ownBlock = some g → g < w2.heap.size := own_lt hO3
    obtain ⟨X1, k1, rfl, hk1, _, hi1, hf1, hl1⟩ := own_it hO1
    obtain ⟨X2, k2, rfl, hk2, _, hi2, hf2, hl2'⟩ := own_it hO2
    obtain ⟨X3, k3, rfl, hk3, _, hi3, hf3, hl3'⟩ := own_it hO3
    have HQ2 := Lib.hid (HQ.out.below hb2')
    have HG2 := Lib.hid (chain HG.out hb2')
    have hw2 := hb2'.size
    have hwl := HG2.out.size
    obtain ⟨w3, hw3⟩ : ∃ wx, wx = w2.alloc (.cells #[.slice X1 R.length k1, .slice X2 W.length k2, .int .i64 Ac, .int .i64 g, .slice X3 ch.length k3] 25) := ⟨_, rfl⟩
    have C3 : Cl w2.heap.size w3 [.slice X1 R.length k1, .slice X2 W.length k2, .int .i64 Ac, .int .i64 g, .slice X3 ch.length k3] := by rw [hw3]; exact Cl.new rfl [.slice X1 R.length k1, .slice X2 W.length k2, .int .i64 Ac, .int .i64 g, .slice X3 ch.length k3] 25
    have al : Below w2.heap.size w2 w3 := by rw [hw3]; exact (Below.refl _ _).alloc (Nat.le_refl _) _
    have D3 := HQ2.out.below al
    have HG3 := Lib.hid (chain HG2.out al)
    have HI1 := Lib.hid (hi1.below al)
    have HI2 := Lib.hid (hi2.below al)
    have HI3 := Lib.hid (hi3.below al)
    have HW3 := Lib.hid hw3
    have HC3 := Lib.hid C3
    have HD3 := Lib.hid D3
    clear p0 p1 p2 p3 p4 q0 q1 q2 q3 q4 f0 f1 f2 f3 f4 zp zq HQ HP HQ2 hi1 hi2 hi3 hO1 hO2 hO3 hv1 hv2 hv3 hb2' hbb3 C3 D3 al hw3 hl1 hl2' hl3' KC KV
    go_upto_region 7 with fail
    rw [← HW3.out]
    clear HW3
    have p0 := HC3.out.c 0 rfl
    have p1 := HC3.out.c 1 rfl
    have p2 := HC3.out.c 2 rfl
    have p3 := HC3.out.c 3 rfl
    have p4 := HC3.out.c 4 rfl
    have zp := HC3.out.1
    have q0 := HD3.out.c 0 rfl
    have q1 := HD3.out.c 1 rfl
    have q2 := HD3.out.c 2 rfl
    have q3 := HD3.out.c 3 rfl
    have q4 := HD3.out.c 4 rfl
    have f0 := HD3.out.f 0 rfl
    have f1 := HD3.out.f 1 rfl
    have f2 := HD3.out.f 2 rfl
    have f3 := HD3.out.f 3 rfl
    have f4 := HD3.out.f 4 rfl
    have zq := HD3.out.1
    go_wp2_with fail
    refine bodyPost_ret (v := .tuple #[.agg #[.slice X1 R.length k1, .slice X2 W.length k2, .int .i64 Ac, .int .i64 g, .slice X3 ch.length k3], .int .i64 0]) (by simp [results, Try.results17, go_sem, q0, f0, q1, f1, q2, f2, q3, f3, q4, f4, zq] <;> first | rfl | ((repeat' apply And.intro) <;> rfl)) rfl ⟨X1, R.length, k1, X2, W.length, k2, X3, ch.length, k3, rfl, rfl, hk1, ?_, rfl, hk2, ?_, rfl, hk3, ?_, fr_le hf1 (by omega), fr_le hf2 (by omega), fr_le hf3 (by omega), below_set5 HG3.out (Nat.le_succ _) _ _ _ _ _⟩
    · exact HI1.out.fr5 hf1 (by omega) _ _ _ _ _
    · exact HI2.out.fr5 hf2 (by omega) _ _ _ _ _
    · exact HI3.out.fr5 hf3 (by omega) _ _ _ _ _
end Go.Proofs.Ytamajedopofcoaa
