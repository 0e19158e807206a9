/-
  The contract of Write. No condition but the slices' shape.
-/
import Derived.Test.YtamajedopofcoaaZB
set_option linter.unusedVariables false
set_option linter.unusedSimpArgs false
namespace Go.Proofs.Ytamajedopofcoaa
open Go.RowKit
set_option maxRecDepth 100000 in
set_option maxHeartbeats 16000000 in
theorem wri15_no (A : Option Addr) (n c : Nat) (A2 : Option Addr) (n2 c2 : Nat) (Ac Pe : Int) (A3 : Option Addr) (m c3 : Nat) (R W : List Int) (ch : List (Int × Int)) (i x : Int) (w : World) (hl : R.length = n) (hb : Ik .i64 w A R) (hc : n ≤ c) (hl2 : W.length = n2) (hb2 : Ik .i64 w A2 W) (hc2 : n2 ≤ c2) (hl3 : ch.length = m) (hb3 : Ik .i64 w A3 (flat ch)) (hc3 : m ≤ c3) (hs : n ≤ 5000) (hs2 : n2 ≤ 5000) (hs3 : m ≤ 5000) (hv : vP R W Ac Pe ch = false) : Calls Try.prog 15 #[.agg #[.slice A n c, .slice A2 n2 c2, .int .i64 Ac, .int .i64 Pe, .slice A3 m c3], .int .i64 i, .int .i64 x] w (PO pz 1 w) := by
  have KV := fun w h h2 h3 => valid11 A n c A2 n2 c2 Ac Pe A3 m c3 R W ch w hl h hc hl2 h2 hc2 hl3 h3 hc3 hs hs2 hs3
  rw [hv] at KV
  replace KV := Lib.hid KV
  have C1 := (Cl.new (w := w) rfl [.slice A n c, .slice A2 n2 c2, .int .i64 Ac, .int .i64 Pe, .slice A3 m c3] 25).below ((Below.refl _ _).alloc (Nat.le_refl _) (.cells #[.slice none 0 0, .slice none 0 0, .int .i64 0, .int .i64 0, .slice none 0 0] 25))
  have C2 := Cl.new (P := w.heap.size + 1) (w := w.alloc (.cells #[.slice A n c, .slice A2 n2 c2, .int .i64 Ac, .int .i64 Pe, .slice A3 m c3] 25)) (by simp) [.slice none 0 0, .slice none 0 0, .int .i64 0, .int .i64 0, .slice none 0 0] 25
  have G8 : Below w.heap.size w ((w.alloc (.cells #[.slice A n c, .slice A2 n2 c2, .int .i64 Ac, .int .i64 Pe, .slice A3 m c3] 25)).alloc (.cells #[.slice none 0 0, .slice none 0 0, .int .i64 0, .int .i64 0, .slice none 0 0] 25)) := by go_grown
  have HB1 := Lib.hid (hb.below G8)
  have HB2 := Lib.hid (hb2.below G8)
  have HB3 := Lib.hid (hb3.below G8)
  have HG8 := Lib.hid G8
  have HC := Lib.hid C1
  have HD := Lib.hid C2
  have z8 : ((w.alloc (.cells #[.slice A n c, .slice A2 n2 c2, .int .i64 Ac, .int .i64 Pe, .slice A3 m c3] 25)).alloc (.cells #[.slice none 0 0, .slice none 0 0, .int .i64 0, .int .i64 0, .slice none 0 0] 25)).heap.size = w.heap.size + 2 := by simp
  have HZ8 := Lib.hid z8
  clear C1 C2 G8 z8
  clear hl hl2 hl3 hb hb2 hb3 hv 
  go_enter Try.func15, Try.ntmps15
  go_wp2_with fail
  refine (KV.out _ HB1.out HB2.out HB3.out).mono ?_
  rintro r w1 ⟨rfl, hb1⟩
  have hz1 := hb1.size
  have hZ := HZ8.out
  have C1 := HC.out.below hb1
  have D1 := HD.out.below hb1
  have HG := Lib.hid (chain HG8.out hb1)
  have HI1 := Lib.hid (HB1.out.below hb1)
  have HI2 := Lib.hid (HB2.out.below hb1)
  have HI3 := Lib.hid (HB3.out.below hb1)
  have HP := Lib.hid C1
  have HQ := Lib.hid D1
  have hw1 : w.heap.size + 2 ≤ w1.heap.size := by omega
  clear C1 D1 hb1 hz1 hZ HB1 HB2 HB3 HG8 HC HD HZ8
  have p0 := HP.out.c 0 rfl
  have p1 := HP.out.c 1 rfl
  have p2 := HP.out.c 2 rfl
  have p3 := HP.out.c 3 rfl
  have p4 := HP.out.c 4 rfl
  have zp := HP.out.1
  have q0 := HQ.out.c 0 rfl
  have q1 := HQ.out.c 1 rfl
  have q2 := HQ.out.c 2 rfl
  have q3 := HQ.out.c 3 rfl
  have q4 := HQ.out.c 4 rfl
  have f0 := HQ.out.f 0 rfl
  have f1 := HQ.out.f 1 rfl
  have f2 := HQ.out.f 2 rfl
  have f3 := HQ.out.f 3 rfl
  have f4 := HQ.out.f 4 rfl
  have zq := HQ.out.1
  go_wp2_with fail
  refine bodyPost_ret (v := .tuple #[.agg #[.slice none 0 0, .slice none 0 0, .int .i64 0, .int .i64 0, .slice none 0 0], .int .i64 1]) (by simp [results, Try.results15, go_sem, q0, f0, q1, f1, q2, f2, q3, f3, q4, f4, zq] <;> first | rfl | ((repeat' apply And.intro) <;> rfl)) rfl (PO.zero rfl (below_set5 HG.out (Nat.le_succ _) _ _ _ _ _))
set_option maxRecDepth 100000 in
set_option maxHeartbeats 16000000 in
theorem wri15_bad (A : Option Addr) (n c : Nat) (A2 : Option Addr) (n2 c2 : Nat) (Ac Pe : Int) (A3 : Option Addr) (m c3 : Nat) (R W : List Int) (ch : List (Int × Int)) (i x : Int) (w : World) (hl : R.length = n) (hb : Ik .i64 w A R) (hc : n ≤ c) (hl2 : W.length = n2) (hb2 : Ik .i64 w A2 W) (hc2 : n2 ≤ c2) (hl3 : ch.length = m) (hb3 : Ik .i64 w A3 (flat ch)) (hc3 : m ≤ c3) (hs : n ≤ 5000) (hs2 : n2 ≤ 5000) (hs3 : m ≤ 5000) (hv : vP R W Ac Pe ch = true) (hi : i < 0 ∨ (0 ≤ i ∧ (n : Int) ≤ i) ∨ (0 ≤ i ∧ i < n ∧ parB x = false)) : Calls Try.prog 15 #[.agg #[.slice A n c, .slice A2 n2 c2, .int .i64 Ac, .int .i64 Pe, .slice A3 m c3], .int .i64 i, .int .i64 x] w (PO pz 2 w) := by
  have KV := fun w h h2 h3 => valid11 A n c A2 n2 c2 Ac Pe A3 m c3 R W ch w hl h hc hl2 h2 hc2 hl3 h3 hc3 hs hs2 hs3
  rw [hv] at KV
  replace KV := Lib.hid KV
  have hnn : n2 = n := by rw [← hl, ← hl2]; exact (vP_t hv).2.2.1
  rcases hi with h | ⟨h, h2⟩ | ⟨h, h2, hx⟩
  · have d0 : decide (i < 0) = true := by simp; omega
    have C1 := (Cl.new (w := w) rfl [.slice A n c, .slice A2 n2 c2, .int .i64 Ac, .int .i64 Pe, .slice A3 m c3] 25).below ((Below.refl _ _).alloc (Nat.le_refl _) (.cells #[.slice none 0 0, .slice none 0 0, .int .i64 0, .int .i64 0, .slice none 0 0] 25))
    have C2 := Cl.new (P := w.heap.size + 1) (w := w.alloc (.cells #[.slice A n c, .slice A2 n2 c2, .int .i64 Ac, .int .i64 Pe, .slice A3 m c3] 25)) (by simp) [.slice none 0 0, .slice none 0 0, .int .i64 0, .int .i64 0, .slice none 0 0] 25
    have G8 : Below w.heap.size w ((w.alloc (.cells #[.slice A n c, .slice A2 n2 c2, .int .i64 Ac, .int .i64 Pe, .slice A3 m c3] 25)).alloc (.cells #[.slice none 0 0, .slice none 0 0, .int .i64 0, .int .i64 0, .slice none 0 0] 25)) := by go_grown
    have HB1 := Lib.hid (hb.below G8)
    have HB2 := Lib.hid (hb2.below G8)
    have HB3 := Lib.hid (hb3.below G8)
    have HG8 := Lib.hid G8
    have HC := Lib.hid C1
    have HD := Lib.hid C2
    have z8 : ((w.alloc (.cells #[.slice A n c, .slice A2 n2 c2, .int .i64 Ac, .int .i64 Pe, .slice A3 m c3] 25)).alloc (.cells #[.slice none 0 0, .slice none 0 0, .int .i64 0, .int .i64 0, .slice none 0 0] 25)).heap.size = w.heap.size + 2 := by simp
    have HZ8 := Lib.hid z8
    clear C1 C2 G8 z8
    clear hl hl2 hl3 hb hb2 hb3 hv h hnn
    go_enter Try.func15, Try.ntmps15
    go_wp2_with fail
    refine (KV.out _ HB1.out HB2.out HB3.out).mono ?_
    rintro r w1 ⟨rfl, hb1⟩
    have hz1 := hb1.size
    have hZ := HZ8.out
    have C1 := HC.out.below hb1
    have D1 := HD.out.below hb1
    have HG := Lib.hid (chain HG8.out hb1)
    have HI1 := Lib.hid (HB1.out.below hb1)
    have HI2 := Lib.hid (HB2.out.below hb1)
    have HI3 := Lib.hid (HB3.out.below hb1)
    have HP := Lib.hid C1
    have HQ := Lib.hid D1
    have hw1 : w.heap.size + 2 ≤ w1.heap.size := by omega
    clear C1 D1 hb1 hz1 hZ HB1 HB2 HB3 HG8 HC HD HZ8
    have p0 := HP.out.c 0 rfl
    have p1 := HP.out.c 1 rfl
    have p2 := HP.out.c 2 rfl
    have p3 := HP.out.c 3 rfl
    have p4 := HP.out.c 4 rfl
    have zp := HP.out.1
    have q0 := HQ.out.c 0 rfl
    have q1 := HQ.out.c 1 rfl
    have q2 := HQ.out.c 2 rfl
    have q3 := HQ.out.c 3 rfl
    have q4 := HQ.out.c 4 rfl
    have f0 := HQ.out.f 0 rfl
    have f1 := HQ.out.f 1 rfl
    have f2 := HQ.out.f 2 rfl
    have f3 := HQ.out.f 3 rfl
    have f4 := HQ.out.f 4 rfl
    have zq := HQ.out.1
    go_wp2_with fail
    refine bodyPost_ret (v := .tuple #[.agg #[.slice none 0 0, .slice none 0 0, .int .i64 0, .int .i64 0, .slice none 0 0], .int .i64 2]) (by simp [results, Try.results15, go_sem, q0, f0, q1, f1, q2, f2, q3, f3, q4, f4, zq] <;> first | rfl | ((repeat' apply And.intro) <;> rfl)) rfl (PO.zero rfl (below_set5 HG.out (Nat.le_succ _) _ _ _ _ _))
  · have d0 : decide (i < 0) = false := by simp; omega
    have d1 : decide ((n : Int) ≤ i) = true := by simp; omega
    have C1 := (Cl.new (w := w) rfl [.slice A n c, .slice A2 n2 c2, .int .i64 Ac, .int .i64 Pe, .slice A3 m c3] 25).below ((Below.refl _ _).alloc (Nat.le_refl _) (.cells #[.slice none 0 0, .slice none 0 0, .int .i64 0, .int .i64 0, .slice none 0 0] 25))
    have C2 := Cl.new (P := w.heap.size + 1) (w := w.alloc (.cells #[.slice A n c, .slice A2 n2 c2, .int .i64 Ac, .int .i64 Pe, .slice A3 m c3] 25)) (by simp) [.slice none 0 0, .slice none 0 0, .int .i64 0, .int .i64 0, .slice none 0 0] 25
    have G8 : Below w.heap.size w ((w.alloc (.cells #[.slice A n c, .slice A2 n2 c2, .int .i64 Ac, .int .i64 Pe, .slice A3 m c3] 25)).alloc (.cells #[.slice none 0 0, .slice none 0 0, .int .i64 0, .int .i64 0, .slice none 0 0] 25)) := by go_grown
    have HB1 := Lib.hid (hb.below G8)
    have HB2 := Lib.hid (hb2.below G8)
    have HB3 := Lib.hid (hb3.below G8)
    have HG8 := Lib.hid G8
    have HC := Lib.hid C1
    have HD := Lib.hid C2
    have z8 : ((w.alloc (.cells #[.slice A n c, .slice A2 n2 c2, .int .i64 Ac, .int .i64 Pe, .slice A3 m c3] 25)).alloc (.cells #[.slice none 0 0, .slice none 0 0, .int .i64 0, .int .i64 0, .slice none 0 0] 25)).heap.size = w.heap.size + 2 := by simp
    have HZ8 := Lib.hid z8
    clear C1 C2 G8 z8
    clear hl hl2 hl3 hb hb2 hb3 hv h h2 hnn
    go_enter Try.func15, Try.ntmps15
    go_wp2_with fail
    refine (KV.out _ HB1.out HB2.out HB3.out).mono ?_
    rintro r w1 ⟨rfl, hb1⟩
    have hz1 := hb1.size
    have hZ := HZ8.out
    have C1 := HC.out.below hb1
    have D1 := HD.out.below hb1
    have HG := Lib.hid (chain HG8.out hb1)
    have HI1 := Lib.hid (HB1.out.below hb1)
    have HI2 := Lib.hid (HB2.out.below hb1)
    have HI3 := Lib.hid (HB3.out.below hb1)
    have HP := Lib.hid C1
    have HQ := Lib.hid D1
    have hw1 : w.heap.size + 2 ≤ w1.heap.size := by omega
    clear C1 D1 hb1 hz1 hZ HB1 HB2 HB3 HG8 HC HD HZ8
    have p0 := HP.out.c 0 rfl
    have p1 := HP.out.c 1 rfl
    have p2 := HP.out.c 2 rfl
    have p3 := HP.out.c 3 rfl
    have p4 := HP.out.c 4 rfl
    have zp := HP.out.1
    have q0 := HQ.out.c 0 rfl
    have q1 := HQ.out.c 1 rfl
    have q2 := HQ.out.c 2 rfl
    have q3 := HQ.out.c 3 rfl
    have q4 := HQ.out.c 4 rfl
    have f0 := HQ.out.f 0 rfl
    have f1 := HQ.out.f 1 rfl
    have f2 := HQ.out.f 2 rfl
    have f3 := HQ.out.f 3 rfl
    have f4 := HQ.out.f 4 rfl
    have zq := HQ.out.1
    go_wp2_with fail
    refine bodyPost_ret (v := .tuple #[.agg #[.slice none 0 0, .slice none 0 0, .int .i64 0, .int .i64 0, .slice none 0 0], .int .i64 2]) (by simp [results, Try.results15, go_sem, q0, f0, q1, f1, q2, f2, q3, f3, q4, f4, zq] <;> first | rfl | ((repeat' apply And.intro) <;> rfl)) rfl (PO.zero rfl (below_set5 HG.out (Nat.le_succ _) _ _ _ _ _))
  · have d0 : decide (i < 0) = false := by simp; omega
    have d1 : decide ((n : Int) ≤ i) = false := by simp; omega
    have KX := fun w => param34 x w
    rw [hx] at KX
    replace KX := Lib.hid KX
    have C1 := (Cl.new (w := w) rfl [.slice A n c, .slice A2 n2 c2, .int .i64 Ac, .int .i64 Pe, .slice A3 m c3] 25).below ((Below.refl _ _).alloc (Nat.le_refl _) (.cells #[.slice none 0 0, .slice none 0 0, .int .i64 0, .int .i64 0, .slice none 0 0] 25))
    have C2 := Cl.new (P := w.heap.size + 1) (w := w.alloc (.cells #[.slice A n c, .slice A2 n2 c2, .int .i64 Ac, .int .i64 Pe, .slice A3 m c3] 25)) (by simp) [.slice none 0 0, .slice none 0 0, .int .i64 0, .int .i64 0, .slice none 0 0] 25
    have G8 : Below w.heap.size w ((w.alloc (.cells #[.slice A n c, .slice A2 n2 c2, .int .i64 Ac, .int .i64 Pe, .slice A3 m c3] 25)).alloc (.cells #[.slice none 0 0, .slice none 0 0, .int .i64 0, .int .i64 0, .slice none 0 0] 25)) := by go_grown
    have HB1 := Lib.hid (hb.below G8)
    have HB2 := Lib.hid (hb2.below G8)
    have HB3 := Lib.hid (hb3.below G8)
    have HG8 := Lib.hid G8
    have HC := Lib.hid C1
    have HD := Lib.hid C2
    have z8 : ((w.alloc (.cells #[.slice A n c, .slice A2 n2 c2, .int .i64 Ac, .int .i64 Pe, .slice A3 m c3] 25)).alloc (.cells #[.slice none 0 0, .slice none 0 0, .int .i64 0, .int .i64 0, .slice none 0 0] 25)).heap.size = w.heap.size + 2 := by simp
    have HZ8 := Lib.hid z8
    clear C1 C2 G8 z8
    clear hl hl2 hl3 hb hb2 hb3 hv h h2 hx hnn
    go_enter Try.func15, Try.ntmps15
    go_wp2_with fail
    refine (KV.out _ HB1.out HB2.out HB3.out).mono ?_
    rintro r w1 ⟨rfl, hb1⟩
    have hz1 := hb1.size
    have hZ := HZ8.out
    have C1 := HC.out.below hb1
    have D1 := HD.out.below hb1
    have HG := Lib.hid (chain HG8.out hb1)
    have HI1 := Lib.hid (HB1.out.below hb1)
    have HI2 := Lib.hid (HB2.out.below hb1)
    have HI3 := Lib.hid (HB3.out.below hb1)
    have HP := Lib.hid C1
    have HQ := Lib.hid D1
    have hw1 : w.heap.size + 2 ≤ w1.heap.size := by omega
    clear C1 D1 hb1 hz1 hZ HB1 HB2 HB3 HG8 HC HD HZ8
    have p0 := HP.out.c 0 rfl
    have p1 := HP.out.c 1 rfl
    have p2 := HP.out.c 2 rfl
    have p3 := HP.out.c 3 rfl
    have p4 := HP.out.c 4 rfl
    have zp := HP.out.1
    have q0 := HQ.out.c 0 rfl
    have q1 := HQ.out.c 1 rfl
    have q2 := HQ.out.c 2 rfl
    have q3 := HQ.out.c 3 rfl
    have q4 := HQ.out.c 4 rfl
    have f0 := HQ.out.f 0 rfl
    have f1 := HQ.out.f 1 rfl
    have f2 := HQ.out.f 2 rfl
    have f3 := HQ.out.f 3 rfl
    have f4 := HQ.out.f 4 rfl
    have zq := HQ.out.1
    go_wp2_with fail
    refine (KX.out _).mono ?_
    rintro r w2 ⟨rfl, rfl⟩
    go_wp2_with fail
    refine bodyPost_ret (v := .tuple #[.agg #[.slice none 0 0, .slice none 0 0, .int .i64 0, .int .i64 0, .slice none 0 0], .int .i64 2]) (by simp [results, Try.results15, go_sem, q0, f0, q1, f1, q2, f2, q3, f3, q4, f4, zq] <;> first | rfl | ((repeat' apply And.intro) <;> rfl)) rfl (PO.zero rfl (below_set5 HG.out (Nat.le_succ _) _ _ _ _ _))
set_option maxRecDepth 100000 in
set_option maxHeartbeats 16000000 in
theorem wri15_full (A : Option Addr) (n c : Nat) (A2 : Option Addr) (n2 c2 : Nat) (Ac Pe : Int) (A3 : Option Addr) (m c3 : Nat) (R W : List Int) (ch : List (Int × Int)) (i x : Int) (w : World) (hl : R.length = n) (hb : Ik .i64 w A R) (hc : n ≤ c) (hl2 : W.length = n2) (hb2 : Ik .i64 w A2 W) (hc2 : n2 ≤ c2) (hl3 : ch.length = m) (hb3 : Ik .i64 w A3 (flat ch)) (hc3 : m ≤ c3) (hs : n ≤ 5000) (hs2 : n2 ≤ 5000) (hs3 : m ≤ 5000) (hv : vP R W Ac Pe ch = true) (hi0 : 0 ≤ i) (hi1 : i < n) (hx : parB x = true) (hm : m = 100) : Calls Try.prog 15 #[.agg #[.slice A n c, .slice A2 n2 c2, .int .i64 Ac, .int .i64 Pe, .slice A3 m c3], .int .i64 i, .int .i64 x] w (PO pz 5 w) := by
  have KV := fun w h h2 h3 => valid11 A n c A2 n2 c2 Ac Pe A3 m c3 R W ch w hl h hc hl2 h2 hc2 hl3 h3 hc3 hs hs2 hs3
  rw [hv] at KV
  replace KV := Lib.hid KV
  have hnn : n2 = n := by rw [← hl, ← hl2]; exact (vP_t hv).2.2.1
  have d0 : decide (i < 0) = false := by simp; omega
  have d1 : decide ((n : Int) ≤ i) = false := by simp; omega
  have d2 : ((m : Int) == 100) = true := by simp; omega
  have d3 : decide ((m : Int) = 100) = true := by simp; omega
  have KX := fun w => param34 x w
  rw [hx] at KX
  replace KX := Lib.hid KX
  have C1 := (Cl.new (w := w) rfl [.slice A n c, .slice A2 n2 c2, .int .i64 Ac, .int .i64 Pe, .slice A3 m c3] 25).below ((Below.refl _ _).alloc (Nat.le_refl _) (.cells #[.slice none 0 0, .slice none 0 0, .int .i64 0, .int .i64 0, .slice none 0 0] 25))
  have C2 := Cl.new (P := w.heap.size + 1) (w := w.alloc (.cells #[.slice A n c, .slice A2 n2 c2, .int .i64 Ac, .int .i64 Pe, .slice A3 m c3] 25)) (by simp) [.slice none 0 0, .slice none 0 0, .int .i64 0, .int .i64 0, .slice none 0 0] 25
  have G8 : Below w.heap.size w ((w.alloc (.cells #[.slice A n c, .slice A2 n2 c2, .int .i64 Ac, .int .i64 Pe, .slice A3 m c3] 25)).alloc (.cells #[.slice none 0 0, .slice none 0 0, .int .i64 0, .int .i64 0, .slice none 0 0] 25)) := by go_grown
  have HB1 := Lib.hid (hb.below G8)
  have HB2 := Lib.hid (hb2.below G8)
  have HB3 := Lib.hid (hb3.below G8)
  have HG8 := Lib.hid G8
  have HC := Lib.hid C1
  have HD := Lib.hid C2
  have z8 : ((w.alloc (.cells #[.slice A n c, .slice A2 n2 c2, .int .i64 Ac, .int .i64 Pe, .slice A3 m c3] 25)).alloc (.cells #[.slice none 0 0, .slice none 0 0, .int .i64 0, .int .i64 0, .slice none 0 0] 25)).heap.size = w.heap.size + 2 := by simp
  have HZ8 := Lib.hid z8
  clear C1 C2 G8 z8
  clear hl hl2 hl3 hb hb2 hb3 hv hi0 hi1 hx hm hnn
  go_enter Try.func15, Try.ntmps15
  go_wp2_with fail
  refine (KV.out _ HB1.out HB2.out HB3.out).mono ?_
  rintro r w1 ⟨rfl, hb1⟩
  have hz1 := hb1.size
  have hZ := HZ8.out
  have C1 := HC.out.below hb1
  have D1 := HD.out.below hb1
  have HG := Lib.hid (chain HG8.out hb1)
  have HI1 := Lib.hid (HB1.out.below hb1)
  have HI2 := Lib.hid (HB2.out.below hb1)
  have HI3 := Lib.hid (HB3.out.below hb1)
  have HP := Lib.hid C1
  have HQ := Lib.hid D1
  have hw1 : w.heap.size + 2 ≤ w1.heap.size := by omega
  clear C1 D1 hb1 hz1 hZ HB1 HB2 HB3 HG8 HC HD HZ8
  have p0 := HP.out.c 0 rfl
  have p1 := HP.out.c 1 rfl
  have p2 := HP.out.c 2 rfl
  have p3 := HP.out.c 3 rfl
  have p4 := HP.out.c 4 rfl
  have zp := HP.out.1
  have q0 := HQ.out.c 0 rfl
  have q1 := HQ.out.c 1 rfl
  have q2 := HQ.out.c 2 rfl
  have q3 := HQ.out.c 3 rfl
  have q4 := HQ.out.c 4 rfl
  have f0 := HQ.out.f 0 rfl
  have f1 := HQ.out.f 1 rfl
  have f2 := HQ.out.f 2 rfl
  have f3 := HQ.out.f 3 rfl
  have f4 := HQ.out.f 4 rfl
  have zq := HQ.out.1
  go_wp2_with fail
  refine (KX.out _).mono ?_
  rintro r w2 ⟨rfl, rfl⟩
  go_wp2_with fail
  refine bodyPost_ret (v := .tuple #[.agg #[.slice none 0 0, .slice none 0 0, .int .i64 0, .int .i64 0, .slice none 0 0], .int .i64 5]) (by simp [results, Try.results15, go_sem, q0, f0, q1, f1, q2, f2, q3, f3, q4, f4, zq] <;> first | rfl | ((repeat' apply And.intro) <;> rfl)) rfl (PO.zero rfl (below_set5 HG.out (Nat.le_succ _) _ _ _ _ _))
set_option maxRecDepth 100000 in
set_option maxHeartbeats 16000000 in
theorem wri15_ok (A : Option Addr) (n c : Nat) (A2 : Option Addr) (n2 c2 : Nat) (Ac Pe : Int) (A3 : Option Addr) (m c3 : Nat) (R W : List Int) (ch : List (Int × Int)) (i x : Int) (w : World) (hl : R.length = n) (hb : Ik .i64 w A R) (hc : n ≤ c) (hl2 : W.length = n2) (hb2 : Ik .i64 w A2 W) (hc2 : n2 ≤ c2) (hl3 : ch.length = m) (hb3 : Ik .i64 w A3 (flat ch)) (hc3 : m ≤ c3) (hs : n ≤ 5000) (hs2 : n2 ≤ 5000) (hs3 : m ≤ 5000) (hv : vP R W Ac Pe ch = true) (hi0 : 0 ≤ i) (hi1 : i < n) (hx : parB x = true) (hm : ¬ m = 100) : Calls Try.prog 15 #[.agg #[.slice A n c, .slice A2 n2 c2, .int .i64 Ac, .int .i64 Pe, .slice A3 m c3], .int .i64 i, .int .i64 x] w (PO ⟨R, W, Ac, Pe, ch ++ [(i, x)]⟩ 0 w) := by
  have KV := fun w h h2 h3 => valid11 A n c A2 n2 c2 Ac Pe A3 m c3 R W ch w hl h hc hl2 h2 hc2 hl3 h3 hc3 hs hs2 hs3
  rw [hv] at KV
  replace KV := Lib.hid KV
  have hnn : n2 = n := by rw [← hl, ← hl2]; exact (vP_t hv).2.2.1
  have hm6 : ch.length ≤ 5000 := by omega
  have d0 : decide (i < 0) = false := by simp; omega
  have d1 : decide ((n : Int) ≤ i) = false := by simp; omega
  have d2 : ((m : Int) == 100) = false := by simp; omega
  have d3 : decide ((m : Int) = 100) = false := by simp; omega
  have KX := fun w => param34 x w
  rw [hx] at KX
  replace KX := Lib.hid KX
  have KC := fun w h h2 h3 => copy36 A n c A2 n2 c2 Ac Pe A3 m c3 R W ch w hl h hc hl2 h2 hc2 hl3 h3 hc3 hs hs2 hs3
  replace KC := Lib.hid KC
  have C1 := (Cl.new (w := w) rfl [.slice A n c, .slice A2 n2 c2, .int .i64 Ac, .int .i64 Pe, .slice A3 m c3] 25).below ((Below.refl _ _).alloc (Nat.le_refl _) (.cells #[.slice none 0 0, .slice none 0 0, .int .i64 0, .int .i64 0, .slice none 0 0] 25))
  have C2 := Cl.new (P := w.heap.size + 1) (w := w.alloc (.cells #[.slice A n c, .slice A2 n2 c2, .int .i64 Ac, .int .i64 Pe, .slice A3 m c3] 25)) (by simp) [.slice none 0 0, .slice none 0 0, .int .i64 0, .int .i64 0, .slice none 0 0] 25
  have G8 : Below w.heap.size w ((w.alloc (.cells #[.slice A n c, .slice A2 n2 c2, .int .i64 Ac, .int .i64 Pe, .slice A3 m c3] 25)).alloc (.cells #[.slice none 0 0, .slice none 0 0, .int .i64 0, .int .i64 0, .slice none 0 0] 25)) := by go_grown
  have HB1 := Lib.hid (hb.below G8)
  have HB2 := Lib.hid (hb2.below G8)
  have HB3 := Lib.hid (hb3.below G8)
  have HG8 := Lib.hid G8
  have HC := Lib.hid C1
  have HD := Lib.hid C2
  have z8 : ((w.alloc (.cells #[.slice A n c, .slice A2 n2 c2, .int .i64 Ac, .int .i64 Pe, .slice A3 m c3] 25)).alloc (.cells #[.slice none 0 0, .slice none 0 0, .int .i64 0, .int .i64 0, .slice none 0 0] 25)).heap.size = w.heap.size + 2 := by simp
  have HZ8 := Lib.hid z8
  clear C1 C2 G8 z8
  clear hl hl2 hl3 hb hb2 hb3 hv hi0 hi1 hx hm hnn
  go_enter Try.func15, Try.ntmps15
  go_wp2_with fail
  refine (KV.out _ HB1.out HB2.out HB3.out).mono ?_
  rintro r w1 ⟨rfl, hb1⟩
  have hz1 := hb1.size
  have hZ := HZ8.out
  have C1 := HC.out.below hb1
  have D1 := HD.out.below hb1
  have HG := Lib.hid (chain HG8.out hb1)
  have HI1 := Lib.hid (HB1.out.below hb1)
  have HI2 := Lib.hid (HB2.out.below hb1)
  have HI3 := Lib.hid (HB3.out.below hb1)
  have HP := Lib.hid C1
  have HQ := Lib.hid D1
  have hw1 : w.heap.size + 2 ≤ w1.heap.size := by omega
  clear C1 D1 hb1 hz1 hZ HB1 HB2 HB3 HG8 HC HD HZ8
  have p0 := HP.out.c 0 rfl
  have p1 := HP.out.c 1 rfl
  have p2 := HP.out.c 2 rfl
  have p3 := HP.out.c 3 rfl
  have p4 := HP.out.c 4 rfl
  have zp := HP.out.1
  have q0 := HQ.out.c 0 rfl
  have q1 := HQ.out.c 1 rfl
  have q2 := HQ.out.c 2 rfl
  have q3 := HQ.out.c 3 rfl
  have q4 := HQ.out.c 4 rfl
  have f0 := HQ.out.f 0 rfl
  have f1 := HQ.out.f 1 rfl
  have f2 := HQ.out.f 2 rfl
  have f3 := HQ.out.f 3 rfl
  have f4 := HQ.out.f 4 rfl
  have zq := HQ.out.1
  go_wp2_with fail
  refine (KX.out _).mono ?_
  rintro r w2 ⟨rfl, rfl⟩
  go_wp2_with fail
  refine (KC.out _ HI1.out HI2.out HI3.out).mono ?_
  rintro r w2 ⟨v1, v2, v3, b2, b3, rfl, hB2, hB3, hO1, hv1, hO2, hv2, hO3, hbb3, hb2'⟩
  have hv3 : ∀ g, v3.ownBlock = some g → g < w2.heap.size := own_lt hO3
  obtain ⟨X1, k1, rfl, hk1, _, hi1, hf1, hl1⟩ := own_it hO1
  obtain ⟨X2, k2, rfl, hk2, _, hi2, hf2, hl2'⟩ := own_it hO2
  obtain ⟨X3, k3, rfl, hk3, _, hi3, hf3, hl3'⟩ := own_it hO3
  have HQ2 := Lib.hid (HQ.out.below hb2')
  have HG2 := Lib.hid (chain HG.out hb2')
  have hw2 := hb2'.size
  have hwl := HG2.out.size
  obtain ⟨w3, hw3⟩ : ∃ wx, wx = w2.alloc (.cells #[.slice X1 R.length k1, .slice X2 W.length k2, .int .i64 Ac, .int .i64 Pe, .slice X3 ch.length k3] 25) := ⟨_, rfl⟩
  have C3 : Cl w2.heap.size w3 [.slice X1 R.length k1, .slice X2 W.length k2, .int .i64 Ac, .int .i64 Pe, .slice X3 ch.length k3] := by rw [hw3]; exact Cl.new rfl [.slice X1 R.length k1, .slice X2 W.length k2, .int .i64 Ac, .int .i64 Pe, .slice X3 ch.length k3] 25
  have al : Below w2.heap.size w2 w3 := by rw [hw3]; exact (Below.refl _ _).alloc (Nat.le_refl _) _
  have hz3 : w3.heap.size = w2.heap.size + 1 := by rw [hw3]; simp
  have al4 : Below w3.heap.size w3 (w3.alloc (.cells #[.int .i64 i, .int .i64 x] 56)) := (Below.refl _ _).alloc (Nat.le_refl _) _
  have HNEW := Lib.hid (Ik.of_block (k := .i64) (l := flat [(i, x)]) (new_at (W := w3) rfl (.cells #[.int .i64 i, .int .i64 x] 56)))
  have HO4 := Lib.hid (own_below (own_below hO3 al) al4)
  have HC4 := Lib.hid (C3.below al4)
  have HD4 := Lib.hid ((HQ2.out.below al).below al4)
  have HG4 := Lib.hid (chain (chain HG2.out al) al4)
  have HI1 := Lib.hid ((hi1.below al).below al4)
  have HI2 := Lib.hid ((hi2.below al).below al4)
  have HW3 := Lib.hid hw3
  have HZ3 := Lib.hid hz3
  have HC3 := Lib.hid C3
  have hx1 : ∀ b o, X1 = some ⟨b, o, none⟩ → b < b3 := fun b o e => by subst e; have := hv1 b rfl; omega
  have hx2 : ∀ b o, X2 = some ⟨b, o, none⟩ → b < b3 := fun b o e => by subst e; exact hv2 b rfl
  have HX1 := Lib.hid hx1
  have HX2 := Lib.hid hx2
  have HV3 := Lib.hid hv3
  have hb3w : b3 ≤ w2.heap.size := hbb3
  clear p0 p1 p2 p3 p4 q0 q1 q2 q3 q4 f0 f1 f2 f3 f4 zp zq HQ HP HQ2 hi1 hi2 hi3 hO1 hO2 hO3 hv1 hv2 hv3 hb2' hbb3 C3 al hw3 hl1 hl2' hl3' KC KV KX hz3 al4 hx1 hx2
  go_upto_region 8 with fail
  rw [← HW3.out]
  clear HW3
  have p0 := HC3.out.c 0 rfl
  have p1 := HC3.out.c 1 rfl
  have p2 := HC3.out.c 2 rfl
  have p3 := HC3.out.c 3 rfl
  have p4 := HC3.out.c 4 rfl
  have e0 := HC3.out.f 0 rfl
  have e1 := HC3.out.f 1 rfl
  have e2 := HC3.out.f 2 rfl
  have e3 := HC3.out.f 3 rfl
  have e4 := HC3.out.f 4 rfl
  have zp := HC3.out.1
  have hz3' : w2.heap.size < w3.heap.size := by have := HZ3.out; omega
  go_wp2_with (at_builtin; go_loud (refine app_one rfl _ _ rfl b3 ch.length _ ((flat ch).map (Value.int .i64)) rfl HO4.out _ i x rfl HNEW.out ?c1 ?c2 ?_))
  case c1 => omega
  case c2 => simp; omega
  intro g4 k4 w5 hO5 hb5 hk5 hg4
  have HG44 := Lib.hid (show g4 ≠ w2.heap.size from by
    rcases hg4 with e | e
    · have := HV3.out _ e; omega
    · first | omega | (rw [e]; simp; omega))
  have C5 := HC4.out.heap (hk5 w2.heap.size (by first | omega | (simp; omega)) (by intro e; have := HV3.out _ e.symm; omega))
  have D5 := HD4.out.heap (hk5 (w.heap.size + 1) (by first | omega | (simp; omega)) (by intro e; have := own_ge HO4.out _ e.symm; omega))
  rw [← List.map_append, ← flat_append] at hO5
  obtain ⟨X4, k4', hve, hk4, _, hi4, hf4, hl4⟩ := own_it hO5
  injection hve with hve1 _ hve2
  subst hve1 hve2
  have HI15 := Lib.hid (HI1.out.belowB HX1.out hb5)
  have HI25 := Lib.hid (HI2.out.belowB HX2.out hb5)
  have HI35 := Lib.hid hi4
  have HG5 := Lib.hid (HG4.out.trans (hb5.mono (by omega)))
  have HC5 := Lib.hid C5
  have HD5 := Lib.hid D5
  have hz5 := hb5.size
  simp at hz5
  clear p0 p1 p2 p3 p4 e0 e1 e2 e3 e4 zp C5 D5 hi4 hO5 hb5 hk5 HC4 HD4 HO4 HNEW HI1 HI2 HC3 HG4
  have p0 := HC5.out.c 0 rfl
  have p1 := HC5.out.c 1 rfl
  have p2 := HC5.out.c 2 rfl
  have p3 := HC5.out.c 3 rfl
  have p4 := HC5.out.c 4 rfl
  have e0 := HC5.out.f 0 rfl
  have e1 := HC5.out.f 1 rfl
  have e2 := HC5.out.f 2 rfl
  have e3 := HC5.out.f 3 rfl
  have e4 := HC5.out.f 4 rfl
  have zp := HC5.out.1
  go_upto_region 9 with fail
  obtain ⟨w6, hw6⟩ : ∃ wx, wx = w5.setCell ⟨w2.heap.size, 4, none⟩ (.slice (some ⟨g4, 0, none⟩) (ch.length + 1) k4) := ⟨_, rfl⟩
  rw [← hw6]
  have C6 : Cl w2.heap.size w6 [.slice X1 R.length k1, .slice X2 W.length k2, .int .i64 Ac, .int .i64 Pe, .slice (some ⟨g4, 0, none⟩) (ch.length + 1) k4] := by rw [hw6]; exact HC5.out.set 4 _
  have D6 : Cl (w.heap.size + 1) w6 [.slice none 0 0, .slice none 0 0, .int .i64 0, .int .i64 0, .slice none 0 0] := by rw [hw6]; exact HD5.out.far (by omega) 4 _
  have HG6 : Hid (Below w.heap.size w w6) := Lib.hid (by rw [hw6]; exact HG5.out.setCell (p := ⟨w2.heap.size, 4, none⟩) (by show w.heap.size ≤ w2.heap.size; omega) _)
  have HI16 : Hid (Ik .i64 w6 X1 R) := Lib.hid (by rw [hw6]; exact HI15.out.set _ (fun b o e => by have := HX1.out b o e; omega) 4 _)
  have HI26 : Hid (Ik .i64 w6 X2 W) := Lib.hid (by rw [hw6]; exact HI25.out.set _ (fun b o e => by have := HX2.out b o e; omega) 4 _)
  have HI36 : Hid (Ik .i64 w6 (some ⟨g4, 0, none⟩) (flat (ch ++ [(i, x)]))) := Lib.hid (by rw [hw6]; exact HI35.out.set _ (fun b o e => by injection e with e; injection e with e _; have := HG44.out; omega) 4 _)
  clear hw6 p0 p1 p2 p3 p4 e0 e1 e2 e3 e4 zp HC5 HD5 HG5 HI15 HI25 HI35
  have p0 := C6.c 0 rfl
  have p1 := C6.c 1 rfl
  have p2 := C6.c 2 rfl
  have p3 := C6.c 3 rfl
  have p4 := C6.c 4 rfl
  have zp := C6.1
  have q0 := D6.c 0 rfl
  have q1 := D6.c 1 rfl
  have q2 := D6.c 2 rfl
  have q3 := D6.c 3 rfl
  have q4 := D6.c 4 rfl
  have f0 := D6.f 0 rfl
  have f1 := D6.f 1 rfl
  have f2 := D6.f 2 rfl
  have f3 := D6.f 3 rfl
  have f4 := D6.f 4 rfl
  have zq := D6.1
  clear C6 D6
  go_wp2_with fail
  refine bodyPost_ret (v := .tuple #[.agg #[.slice X1 R.length k1, .slice X2 W.length k2, .int .i64 Ac, .int .i64 Pe, .slice (some ⟨g4, 0, none⟩) (ch.length + 1) k4], .int .i64 0]) (by simp [results, Try.results15, go_sem, q0, f0, q1, f1, q2, f2, q3, f3, q4, f4, zq] <;> first | rfl | ((repeat' apply And.intro) <;> rfl)) rfl ⟨X1, R.length, k1, X2, W.length, k2, some ⟨g4, 0, none⟩, ch.length + 1, k4, rfl, rfl, hk1, ?_, rfl, hk2, ?_, by simp, hk4, ?_, fr_le hf1 (by omega), fr_le hf2 (by omega), fr_le hf4 (by omega), below_set5 HG6.out (Nat.le_succ _) _ _ _ _ _⟩
  · exact HI16.out.fr5 hf1 (by omega) _ _ _ _ _
  · exact HI26.out.fr5 hf2 (by omega) _ _ _ _ _
  · exact HI36.out.fr5 hf4 (by omega) _ _ _ _ _
end Go.Proofs.Ytamajedopofcoaa
