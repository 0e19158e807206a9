/-
  The contracts of Read and of its reference. No condition but the slices' shape.
-/
import Derived.Test.YtamajedopofcoaaWriP
set_option linter.unusedVariables false
set_option linter.unusedSimpArgs false
namespace Go.Proofs.Ytamajedopofcoaa
open Go.RowKit
/-- what Read answers -/
def readM (p : PG) (i : Int) : Int × Int :=
  if p.ok = false then (0, 1) else if i < 0 ∨ (p.R.length : Int) ≤ i then (0, 2) else if p.Ac = 0 then (p.R.getD i.toNat 0, 0) else (p.W.getD i.toNat 0, 0)
set_option maxRecDepth 100000 in
set_option maxHeartbeats 16000000 in
theorem read13 (A : Option Addr) (n c : Nat) (A2 : Option Addr) (n2 c2 : Nat) (Ac Pe : Int) (A3 : Option Addr) (m c3 : Nat) (R W : List Int) (ch : List (Int × Int)) (i : Int) (w : World) (hl : R.length = n) (hb : Ik .i64 w A R) (hc : n ≤ c) (hl2 : W.length = n2) (hb2 : Ik .i64 w A2 W) (hc2 : n2 ≤ c2) (hl3 : ch.length = m) (hb3 : Ik .i64 w A3 (flat ch)) (hc3 : m ≤ c3) (hs : n ≤ 5000) (hs2 : n2 ≤ 5000) (hs3 : m ≤ 5000) : Calls Try.prog 13 #[.agg #[.slice A n c, .slice A2 n2 c2, .int .i64 Ac, .int .i64 Pe, .slice A3 m c3], .int .i64 i] w fun r w' => r = .returned (.tuple #[.int .i64 (readM ⟨R, W, Ac, Pe, ch⟩ i).1, .int .i64 (readM ⟨R, W, Ac, Pe, ch⟩ i).2]) ∧ Below w.heap.size w w' := by
  cases hv : vP R W Ac Pe ch
  · rw [show readM ⟨R, W, Ac, Pe, ch⟩ i = (0, 1) from by unfold readM; rw [if_pos (show PG.ok ⟨R, W, Ac, Pe, ch⟩ = false from hv)]]
    have KV := fun w h h2 h3 => valid11 A n c A2 n2 c2 Ac Pe A3 m c3 R W ch w hl h hc hl2 h2 hc2 hl3 h3 hc3 hs hs2 hs3
    rw [hv] at KV
    replace KV := Lib.hid KV
    have C1 := Cl.new (w := w) rfl [.slice A n c, .slice A2 n2 c2, .int .i64 Ac, .int .i64 Pe, .slice A3 m c3] 25
    have G8 : Below w.heap.size w (w.alloc (.cells #[.slice A n c, .slice A2 n2 c2, .int .i64 Ac, .int .i64 Pe, .slice A3 m c3] 25)) := by go_grown
    have HB1 := Lib.hid (hb.below G8)
    have HB2 := Lib.hid (hb2.below G8)
    have HB3 := Lib.hid (hb3.below G8)
    have HG8 := Lib.hid G8
    have HC := Lib.hid C1
    clear C1 G8
    clear hl hl2 hl3 hb hb2 hb3 hv 
    go_enter Try.func13, Try.ntmps13
    go_wp2_with fail
    refine (KV.out _ HB1.out HB2.out HB3.out).mono ?_
    rintro r w1 ⟨rfl, hb1⟩
    have C1 := HC.out.below hb1
    have HG := Lib.hid (chain HG8.out hb1)
    have HI1 := Lib.hid (HB1.out.below hb1)
    have HI2 := Lib.hid (HB2.out.below hb1)
    have HP := Lib.hid C1
    clear C1 hb1 HB1 HB2 HB3 HG8 HC
    have p0 := HP.out.c 0 rfl
    have p1 := HP.out.c 1 rfl
    have p2 := HP.out.c 2 rfl
    have p3 := HP.out.c 3 rfl
    have p4 := HP.out.c 4 rfl
    have zp := HP.out.1
    go_wp2_with fail
    refine bodyPost_ret (v := .tuple #[.int .i64 0, .int .i64 1]) (by simp [results, Try.results13, go_sem] <;> first | rfl | ((repeat' apply And.intro) <;> rfl)) rfl ⟨rfl, HG.out⟩
  have hok : ¬ PG.ok ⟨R, W, Ac, Pe, ch⟩ = false := by unfold PG.ok; simp [hv]
  have hnn : n2 = n := by rw [← hl, ← hl2]; exact (vP_t hv).2.2.1
  by_cases h0 : i < 0
  · rw [show readM ⟨R, W, Ac, Pe, ch⟩ i = (0, 2) from by unfold readM; rw [if_neg hok, if_pos (.inl h0)]]
    have d0 : decide (i < 0) = true := by simp; omega
    have KV := fun w h h2 h3 => valid11 A n c A2 n2 c2 Ac Pe A3 m c3 R W ch w hl h hc hl2 h2 hc2 hl3 h3 hc3 hs hs2 hs3
    rw [hv] at KV
    replace KV := Lib.hid KV
    have C1 := Cl.new (w := w) rfl [.slice A n c, .slice A2 n2 c2, .int .i64 Ac, .int .i64 Pe, .slice A3 m c3] 25
    have G8 : Below w.heap.size w (w.alloc (.cells #[.slice A n c, .slice A2 n2 c2, .int .i64 Ac, .int .i64 Pe, .slice A3 m c3] 25)) := by go_grown
    have HB1 := Lib.hid (hb.below G8)
    have HB2 := Lib.hid (hb2.below G8)
    have HB3 := Lib.hid (hb3.below G8)
    have HG8 := Lib.hid G8
    have HC := Lib.hid C1
    clear C1 G8
    clear hl hl2 hl3 hb hb2 hb3 hv h0 hok hnn
    go_enter Try.func13, Try.ntmps13
    go_wp2_with fail
    refine (KV.out _ HB1.out HB2.out HB3.out).mono ?_
    rintro r w1 ⟨rfl, hb1⟩
    have C1 := HC.out.below hb1
    have HG := Lib.hid (chain HG8.out hb1)
    have HI1 := Lib.hid (HB1.out.below hb1)
    have HI2 := Lib.hid (HB2.out.below hb1)
    have HP := Lib.hid C1
    clear C1 hb1 HB1 HB2 HB3 HG8 HC
    have p0 := HP.out.c 0 rfl
    have p1 := HP.out.c 1 rfl
    have p2 := HP.out.c 2 rfl
    have p3 := HP.out.c 3 rfl
    have p4 := HP.out.c 4 rfl
    have zp := HP.out.1
    go_wp2_with fail
    refine bodyPost_ret (v := .tuple #[.int .i64 0, .int .i64 2]) (by simp [results, Try.results13, go_sem] <;> first | rfl | ((repeat' apply And.intro) <;> rfl)) rfl ⟨rfl, HG.out⟩
  by_cases h1 : (n : Int) ≤ i
  · rw [show readM ⟨R, W, Ac, Pe, ch⟩ i = (0, 2) from by unfold readM; rw [if_neg hok, if_pos (.inr (by show (R.length : Int) ≤ i; rw [hl]; exact h1))]]
    have d0 : decide (i < 0) = false := by simp; omega
    have d1 : decide ((n : Int) ≤ i) = true := by simp; omega
    have KV := fun w h h2 h3 => valid11 A n c A2 n2 c2 Ac Pe A3 m c3 R W ch w hl h hc hl2 h2 hc2 hl3 h3 hc3 hs hs2 hs3
    rw [hv] at KV
    replace KV := Lib.hid KV
    have C1 := Cl.new (w := w) rfl [.slice A n c, .slice A2 n2 c2, .int .i64 Ac, .int .i64 Pe, .slice A3 m c3] 25
    have G8 : Below w.heap.size w (w.alloc (.cells #[.slice A n c, .slice A2 n2 c2, .int .i64 Ac, .int .i64 Pe, .slice A3 m c3] 25)) := by go_grown
    have HB1 := Lib.hid (hb.below G8)
    have HB2 := Lib.hid (hb2.below G8)
    have HB3 := Lib.hid (hb3.below G8)
    have HG8 := Lib.hid G8
    have HC := Lib.hid C1
    clear C1 G8
    clear hl hl2 hl3 hb hb2 hb3 hv h0 h1 hok hnn
    go_enter Try.func13, Try.ntmps13
    go_wp2_with fail
    refine (KV.out _ HB1.out HB2.out HB3.out).mono ?_
    rintro r w1 ⟨rfl, hb1⟩
    have C1 := HC.out.below hb1
    have HG := Lib.hid (chain HG8.out hb1)
    have HI1 := Lib.hid (HB1.out.below hb1)
    have HI2 := Lib.hid (HB2.out.below hb1)
    have HP := Lib.hid C1
    clear C1 hb1 HB1 HB2 HB3 HG8 HC
    have p0 := HP.out.c 0 rfl
    have p1 := HP.out.c 1 rfl
    have p2 := HP.out.c 2 rfl
    have p3 := HP.out.c 3 rfl
    have p4 := HP.out.c 4 rfl
    have zp := HP.out.1
    go_wp2_with fail
    refine bodyPost_ret (v := .tuple #[.int .i64 0, .int .i64 2]) (by simp [results, Try.results13, go_sem] <;> first | rfl | ((repeat' apply And.intro) <;> rfl)) rfl ⟨rfl, HG.out⟩
  obtain ⟨k, rfl⟩ : ∃ k : Nat, i = k := ⟨i.toNat, by omega⟩
  have hkn : k < n := by omega
  have hno : ¬ ((k : Int) < 0 ∨ (R.length : Int) ≤ k) := by rw [hl]; omega
  obtain ⟨b, o, rfl, hbl⟩ := hb.addr (by omega)
  obtain ⟨b2, o2, rfl, hbl2⟩ := hb2.addr (by omega)
  have HL := Lib.hid hl
  have HL2 := Lib.hid hl2
  by_cases ha : Ac = 0
  · rw [show readM ⟨R, W, Ac, Pe, ch⟩ k = (R.getD k 0, 0) from by unfold readM; rw [if_neg hok, if_neg hno, if_pos ha]; rfl]
    obtain ⟨y, hy⟩ : ∃ y, y = R.getD k 0 := ⟨_, rfl⟩
    rw [← hy]
    have HY := Lib.hid hy
    clear hy
    have hk2 : (k : Int) < (n : Int) := by omega
    have hk3 : (k : Int) < (n2 : Int) := by omega
    have hk4 : k < n2 := by omega
    have d0 : decide ((k : Int) < 0) = false := decide_eq_false (by omega)
    have d1 : decide ((n : Int) ≤ (k : Int)) = false := by simp; omega
    have d2 : (Ac == 0) = true := by simp [ha]
    have d3 : decide (Ac = 0) = true := by simp [ha]
    have KV := fun w h h2 h3 => valid11 (some ⟨b, o, none⟩) n c (some ⟨b2, o2, none⟩) n2 c2 Ac Pe A3 m c3 R W ch w hl h hc hl2 h2 hc2 hl3 h3 hc3 hs hs2 hs3
    rw [hv] at KV
    replace KV := Lib.hid KV
    have C1 := Cl.new (w := w) rfl [.slice (some ⟨b, o, none⟩) n c, .slice (some ⟨b2, o2, none⟩) n2 c2, .int .i64 Ac, .int .i64 Pe, .slice A3 m c3] 25
    have G8 : Below w.heap.size w (w.alloc (.cells #[.slice (some ⟨b, o, none⟩) n c, .slice (some ⟨b2, o2, none⟩) n2 c2, .int .i64 Ac, .int .i64 Pe, .slice A3 m c3] 25)) := by go_grown
    have HB1 := Lib.hid (hb.below G8)
    have HB2 := Lib.hid (hb2.below G8)
    have HB3 := Lib.hid (hb3.below G8)
    have HG8 := Lib.hid G8
    have HC := Lib.hid C1
    clear C1 G8
    clear hl hl2 hl3 hb hb2 hb3 hv h0 h1 hok hno ha hnn
    go_enter Try.func13, Try.ntmps13
    go_wp2_with fail
    refine (KV.out _ HB1.out HB2.out HB3.out).mono ?_
    rintro r w1 ⟨rfl, hb1⟩
    have C1 := HC.out.below hb1
    have HG := Lib.hid (chain HG8.out hb1)
    have HI1 := Lib.hid (HB1.out.below hb1)
    have HI2 := Lib.hid (HB2.out.below hb1)
    have HP := Lib.hid C1
    clear C1 hb1 HB1 HB2 HB3 HG8 HC
    have p0 := HP.out.c 0 rfl
    have p1 := HP.out.c 1 rfl
    have p2 := HP.out.c 2 rfl
    have p3 := HP.out.c 3 rfl
    have p4 := HP.out.c 4 rfl
    have zp := HP.out.1
    have q1 := (HI1.out.at k (by rw [HL.out]; omega)).1
    rw [← HY.out] at q1
    go_wp2_with fail
    refine bodyPost_ret (v := .tuple #[.int .i64 y, .int .i64 0]) (by simp [results, Try.results13, go_sem] <;> first | rfl | ((repeat' apply And.intro) <;> rfl)) rfl ⟨rfl, HG.out⟩
  · rw [show readM ⟨R, W, Ac, Pe, ch⟩ k = (W.getD k 0, 0) from by unfold readM; rw [if_neg hok, if_neg hno, if_neg ha]; rfl]
    obtain ⟨y, hy⟩ : ∃ y, y = W.getD k 0 := ⟨_, rfl⟩
    rw [← hy]
    have HY := Lib.hid hy
    clear hy
    have hk2 : (k : Int) < (n : Int) := by omega
    have hk3 : (k : Int) < (n2 : Int) := by omega
    have hk4 : k < n2 := by omega
    have d0 : decide ((k : Int) < 0) = false := decide_eq_false (by omega)
    have d1 : decide ((n : Int) ≤ (k : Int)) = false := by simp; omega
    have d2 : (Ac == 0) = false := by simp [ha]
    have d3 : decide (Ac = 0) = false := by simp [ha]
    have KV := fun w h h2 h3 => valid11 (some ⟨b, o, none⟩) n c (some ⟨b2, o2, none⟩) n2 c2 Ac Pe A3 m c3 R W ch w hl h hc hl2 h2 hc2 hl3 h3 hc3 hs hs2 hs3
    rw [hv] at KV
    replace KV := Lib.hid KV
    have C1 := Cl.new (w := w) rfl [.slice (some ⟨b, o, none⟩) n c, .slice (some ⟨b2, o2, none⟩) n2 c2, .int .i64 Ac, .int .i64 Pe, .slice A3 m c3] 25
    have G8 : Below w.heap.size w (w.alloc (.cells #[.slice (some ⟨b, o, none⟩) n c, .slice (some ⟨b2, o2, none⟩) n2 c2, .int .i64 Ac, .int .i64 Pe, .slice A3 m c3] 25)) := by go_grown
    have HB1 := Lib.hid (hb.below G8)
    have HB2 := Lib.hid (hb2.below G8)
    have HB3 := Lib.hid (hb3.below G8)
    have HG8 := Lib.hid G8
    have HC := Lib.hid C1
    clear C1 G8
    clear hl hl2 hl3 hb hb2 hb3 hv h0 h1 hok hno ha hnn
    go_enter Try.func13, Try.ntmps13
    go_wp2_with fail
    refine (KV.out _ HB1.out HB2.out HB3.out).mono ?_
    rintro r w1 ⟨rfl, hb1⟩
    have C1 := HC.out.below hb1
    have HG := Lib.hid (chain HG8.out hb1)
    have HI1 := Lib.hid (HB1.out.below hb1)
    have HI2 := Lib.hid (HB2.out.below hb1)
    have HP := Lib.hid C1
    clear C1 hb1 HB1 HB2 HB3 HG8 HC
    have p0 := HP.out.c 0 rfl
    have p1 := HP.out.c 1 rfl
    have p2 := HP.out.c 2 rfl
    have p3 := HP.out.c 3 rfl
    have p4 := HP.out.c 4 rfl
    have zp := HP.out.1
    have q1 := (HI2.out.at k (by rw [HL2.out]; omega)).1
    rw [← HY.out] at q1
    go_wp2_with fail
    refine bodyPost_ret (v := .tuple #[.int .i64 y, .int .i64 0]) (by simp [results, Try.results13, go_sem] <;> first | rfl | ((repeat' apply And.intro) <;> rfl)) rfl ⟨rfl, HG.out⟩
set_option maxRecDepth 100000 in
set_option maxHeartbeats 16000000 in
theorem rread14 (A : Option Addr) (n c : Nat) (A2 : Option Addr) (n2 c2 : Nat) (Ac Pe : Int) (A3 : Option Addr) (m c3 : Nat) (R W : List Int) (ch : List (Int × Int)) (i : Int) (w : World) (hl : R.length = n) (hb : Ik .i64 w A R) (hc : n ≤ c) (hl2 : W.length = n2) (hb2 : Ik .i64 w A2 W) (hc2 : n2 ≤ c2) (hl3 : ch.length = m) (hb3 : Ik .i64 w A3 (flat ch)) (hc3 : m ≤ c3) (hs : n ≤ 5000) (hs2 : n2 ≤ 5000) (hs3 : m ≤ 5000) : Calls Try.prog 14 #[.agg #[.slice A n c, .slice A2 n2 c2, .int .i64 Ac, .int .i64 Pe, .slice A3 m c3], .int .i64 i] w fun r w' => r = .returned (.tuple #[.int .i64 (readM ⟨R, W, Ac, Pe, ch⟩ i).1, .int .i64 (readM ⟨R, W, Ac, Pe, ch⟩ i).2]) ∧ Below w.heap.size w w' := by
  cases hv : vP R W Ac Pe ch
  · rw [show readM ⟨R, W, Ac, Pe, ch⟩ i = (0, 1) from by unfold readM; rw [if_pos (show PG.ok ⟨R, W, Ac, Pe, ch⟩ = false from hv)]]
    have KV := fun w h h2 h3 => rvalid12 A n c A2 n2 c2 Ac Pe A3 m c3 R W ch w hl h hc hl2 h2 hc2 hl3 h3 hc3 hs hs2 hs3
    rw [hv] at KV
    replace KV := Lib.hid KV
    have C1 := Cl.new (w := w) rfl [.slice A n c, .slice A2 n2 c2, .int .i64 Ac, .int .i64 Pe, .slice A3 m c3] 25
    have G8 : Below w.heap.size w (w.alloc (.cells #[.slice A n c, .slice A2 n2 c2, .int .i64 Ac, .int .i64 Pe, .slice A3 m c3] 25)) := by go_grown
    have HB1 := Lib.hid (hb.below G8)
    have HB2 := Lib.hid (hb2.below G8)
    have HB3 := Lib.hid (hb3.below G8)
    have HG8 := Lib.hid G8
    have HC := Lib.hid C1
    clear C1 G8
    clear hl hl2 hl3 hb hb2 hb3 hv 
    go_enter Try.func14, Try.ntmps14
    go_wp2_with fail
    refine (KV.out _ HB1.out HB2.out HB3.out).mono ?_
    rintro r w1 ⟨rfl, hb1⟩
    have C1 := HC.out.below hb1
    have HG := Lib.hid (chain HG8.out hb1)
    have HI1 := Lib.hid (HB1.out.below hb1)
    have HI2 := Lib.hid (HB2.out.below hb1)
    have HP := Lib.hid C1
    clear C1 hb1 HB1 HB2 HB3 HG8 HC
    have p0 := HP.out.c 0 rfl
    have p1 := HP.out.c 1 rfl
    have p2 := HP.out.c 2 rfl
    have p3 := HP.out.c 3 rfl
    have p4 := HP.out.c 4 rfl
    have zp := HP.out.1
    go_wp2_with fail
    refine bodyPost_ret (v := .tuple #[.int .i64 0, .int .i64 1]) (by simp [results, Try.results14, go_sem] <;> first | rfl | ((repeat' apply And.intro) <;> rfl)) rfl ⟨rfl, HG.out⟩
  have hok : ¬ PG.ok ⟨R, W, Ac, Pe, ch⟩ = false := by unfold PG.ok; simp [hv]
  have hnn : n2 = n := by rw [← hl, ← hl2]; exact (vP_t hv).2.2.1
  by_cases h0 : i < 0
  · rw [show readM ⟨R, W, Ac, Pe, ch⟩ i = (0, 2) from by unfold readM; rw [if_neg hok, if_pos (.inl h0)]]
    have d0 : decide (i < 0) = true := by simp; omega
    have KV := fun w h h2 h3 => rvalid12 A n c A2 n2 c2 Ac Pe A3 m c3 R W ch w hl h hc hl2 h2 hc2 hl3 h3 hc3 hs hs2 hs3
    rw [hv] at KV
    replace KV := Lib.hid KV
    have C1 := Cl.new (w := w) rfl [.slice A n c, .slice A2 n2 c2, .int .i64 Ac, .int .i64 Pe, .slice A3 m c3] 25
    have G8 : Below w.heap.size w (w.alloc (.cells #[.slice A n c, .slice A2 n2 c2, .int .i64 Ac, .int .i64 Pe, .slice A3 m c3] 25)) := by go_grown
    have HB1 := Lib.hid (hb.below G8)
    have HB2 := Lib.hid (hb2.below G8)
    have HB3 := Lib.hid (hb3.below G8)
    have HG8 := Lib.hid G8
    have HC := Lib.hid C1
    clear C1 G8
    clear hl hl2 hl3 hb hb2 hb3 hv h0 hok hnn
    go_enter Try.func14, Try.ntmps14
    go_wp2_with fail
    refine (KV.out _ HB1.out HB2.out HB3.out).mono ?_
    rintro r w1 ⟨rfl, hb1⟩
    have C1 := HC.out.below hb1
    have HG := Lib.hid (chain HG8.out hb1)
    have HI1 := Lib.hid (HB1.out.below hb1)
    have HI2 := Lib.hid (HB2.out.below hb1)
    have HP := Lib.hid C1
    clear C1 hb1 HB1 HB2 HB3 HG8 HC
    have p0 := HP.out.c 0 rfl
    have p1 := HP.out.c 1 rfl
    have p2 := HP.out.c 2 rfl
    have p3 := HP.out.c 3 rfl
    have p4 := HP.out.c 4 rfl
    have zp := HP.out.1
    go_wp2_with fail
    refine bodyPost_ret (v := .tuple #[.int .i64 0, .int .i64 2]) (by simp [results, Try.results14, go_sem] <;> first | rfl | ((repeat' apply And.intro) <;> rfl)) rfl ⟨rfl, HG.out⟩
  by_cases h1 : (n : Int) ≤ i
  · rw [show readM ⟨R, W, Ac, Pe, ch⟩ i = (0, 2) from by unfold readM; rw [if_neg hok, if_pos (.inr (by show (R.length : Int) ≤ i; rw [hl]; exact h1))]]
    have d0 : decide (i < 0) = false := by simp; omega
    have d1 : decide ((n2 : Int) ≤ i) = true := by simp; omega
    have KV := fun w h h2 h3 => rvalid12 A n c A2 n2 c2 Ac Pe A3 m c3 R W ch w hl h hc hl2 h2 hc2 hl3 h3 hc3 hs hs2 hs3
    rw [hv] at KV
    replace KV := Lib.hid KV
    have C1 := Cl.new (w := w) rfl [.slice A n c, .slice A2 n2 c2, .int .i64 Ac, .int .i64 Pe, .slice A3 m c3] 25
    have G8 : Below w.heap.size w (w.alloc (.cells #[.slice A n c, .slice A2 n2 c2, .int .i64 Ac, .int .i64 Pe, .slice A3 m c3] 25)) := by go_grown
    have HB1 := Lib.hid (hb.below G8)
    have HB2 := Lib.hid (hb2.below G8)
    have HB3 := Lib.hid (hb3.below G8)
    have HG8 := Lib.hid G8
    have HC := Lib.hid C1
    clear C1 G8
    clear hl hl2 hl3 hb hb2 hb3 hv h0 h1 hok hnn
    go_enter Try.func14, Try.ntmps14
    go_wp2_with fail
    refine (KV.out _ HB1.out HB2.out HB3.out).mono ?_
    rintro r w1 ⟨rfl, hb1⟩
    have C1 := HC.out.below hb1
    have HG := Lib.hid (chain HG8.out hb1)
    have HI1 := Lib.hid (HB1.out.below hb1)
    have HI2 := Lib.hid (HB2.out.below hb1)
    have HP := Lib.hid C1
    clear C1 hb1 HB1 HB2 HB3 HG8 HC
    have p0 := HP.out.c 0 rfl
    have p1 := HP.out.c 1 rfl
    have p2 := HP.out.c 2 rfl
    have p3 := HP.out.c 3 rfl
    have p4 := HP.out.c 4 rfl
    have zp := HP.out.1
    go_wp2_with fail
    refine bodyPost_ret (v := .tuple #[.int .i64 0, .int .i64 2]) (by simp [results, Try.results14, go_sem] <;> first | rfl | ((repeat' apply And.intro) <;> rfl)) rfl ⟨rfl, HG.out⟩
  obtain ⟨k, rfl⟩ : ∃ k : Nat, i = k := ⟨i.toNat, by omega⟩
  have hkn : k < n := by omega
  have hno : ¬ ((k : Int) < 0 ∨ (R.length : Int) ≤ k) := by rw [hl]; omega
  obtain ⟨b, o, rfl, hbl⟩ := hb.addr (by omega)
  obtain ⟨b2, o2, rfl, hbl2⟩ := hb2.addr (by omega)
  have HL := Lib.hid hl
  have HL2 := Lib.hid hl2
  by_cases ha : Ac = 0
  · rw [show readM ⟨R, W, Ac, Pe, ch⟩ k = (R.getD k 0, 0) from by unfold readM; rw [if_neg hok, if_neg hno, if_pos ha]; rfl]
    obtain ⟨y, hy⟩ : ∃ y, y = R.getD k 0 := ⟨_, rfl⟩
    rw [← hy]
    have HY := Lib.hid hy
    clear hy
    have hk2 : (k : Int) < (n : Int) := by omega
    have hk3 : (k : Int) < (n2 : Int) := by omega
    have hk4 : k < n2 := by omega
    have d0 : decide ((k : Int) < 0) = false := decide_eq_false (by omega)
    have d1 : decide ((n2 : Int) ≤ (k : Int)) = false := by simp; omega
    have d2 : (Ac == 0) = true := by simp [ha]
    have d3 : decide (Ac = 0) = true := by simp [ha]
    have KV := fun w h h2 h3 => rvalid12 (some ⟨b, o, none⟩) n c (some ⟨b2, o2, none⟩) n2 c2 Ac Pe A3 m c3 R W ch w hl h hc hl2 h2 hc2 hl3 h3 hc3 hs hs2 hs3
    rw [hv] at KV
    replace KV := Lib.hid KV
    have C1 := Cl.new (w := w) rfl [.slice (some ⟨b, o, none⟩) n c, .slice (some ⟨b2, o2, none⟩) n2 c2, .int .i64 Ac, .int .i64 Pe, .slice A3 m c3] 25
    have G8 : Below w.heap.size w (w.alloc (.cells #[.slice (some ⟨b, o, none⟩) n c, .slice (some ⟨b2, o2, none⟩) n2 c2, .int .i64 Ac, .int .i64 Pe, .slice A3 m c3] 25)) := by go_grown
    have HB1 := Lib.hid (hb.below G8)
    have HB2 := Lib.hid (hb2.below G8)
    have HB3 := Lib.hid (hb3.below G8)
    have HG8 := Lib.hid G8
    have HC := Lib.hid C1
    clear C1 G8
    clear hl hl2 hl3 hb hb2 hb3 hv h0 h1 hok hno ha hnn
    go_enter Try.func14, Try.ntmps14
    go_wp2_with fail
    refine (KV.out _ HB1.out HB2.out HB3.out).mono ?_
    rintro r w1 ⟨rfl, hb1⟩
    have C1 := HC.out.below hb1
    have HG := Lib.hid (chain HG8.out hb1)
    have HI1 := Lib.hid (HB1.out.below hb1)
    have HI2 := Lib.hid (HB2.out.below hb1)
    have HP := Lib.hid C1
    clear C1 hb1 HB1 HB2 HB3 HG8 HC
    have p0 := HP.out.c 0 rfl
    have p1 := HP.out.c 1 rfl
    have p2 := HP.out.c 2 rfl
    have p3 := HP.out.c 3 rfl
    have p4 := HP.out.c 4 rfl
    have zp := HP.out.1
    have q1 := (HI1.out.at k (by rw [HL.out]; omega)).1
    rw [← HY.out] at q1
    go_wp2_with fail
    refine bodyPost_ret (v := .tuple #[.int .i64 y, .int .i64 0]) (by simp [results, Try.results14, go_sem] <;> first | rfl | ((repeat' apply And.intro) <;> rfl)) rfl ⟨rfl, HG.out⟩
  · rw [show readM ⟨R, W, Ac, Pe, ch⟩ k = (W.getD k 0, 0) from by unfold readM; rw [if_neg hok, if_neg hno, if_neg ha]; rfl]
    obtain ⟨y, hy⟩ : ∃ y, y = W.getD k 0 := ⟨_, rfl⟩
    rw [← hy]
    have HY := Lib.hid hy
    clear hy
    have hk2 : (k : Int) < (n : Int) := by omega
    have hk3 : (k : Int) < (n2 : Int) := by omega
    have hk4 : k < n2 := by omega
    have d0 : decide ((k : Int) < 0) = false := decide_eq_false (by omega)
    have d1 : decide ((n2 : Int) ≤ (k : Int)) = false := by simp; omega
    have d2 : (Ac == 0) = false := by simp [ha]
    have d3 : decide (Ac = 0) = false := by simp [ha]
    have KV := fun w h h2 h3 => rvalid12 (some ⟨b, o, none⟩) n c (some ⟨b2, o2, none⟩) n2 c2 Ac Pe A3 m c3 R W ch w hl h hc hl2 h2 hc2 hl3 h3 hc3 hs hs2 hs3
    rw [hv] at KV
    replace KV := Lib.hid KV
    have C1 := Cl.new (w := w) rfl [.slice (some ⟨b, o, none⟩) n c, .slice (some ⟨b2, o2, none⟩) n2 c2, .int .i64 Ac, .int .i64 Pe, .slice A3 m c3] 25
    have G8 : Below w.heap.size w (w.alloc (.cells #[.slice (some ⟨b, o, none⟩) n c, .slice (some ⟨b2, o2, none⟩) n2 c2, .int .i64 Ac, .int .i64 Pe, .slice A3 m c3] 25)) := by go_grown
    have HB1 := Lib.hid (hb.below G8)
    have HB2 := Lib.hid (hb2.below G8)
    have HB3 := Lib.hid (hb3.below G8)
    have HG8 := Lib.hid G8
    have HC := Lib.hid C1
    clear C1 G8
    clear hl hl2 hl3 hb hb2 hb3 hv h0 h1 hok hno ha hnn
    go_enter Try.func14, Try.ntmps14
    go_wp2_with fail
    refine (KV.out _ HB1.out HB2.out HB3.out).mono ?_
    rintro r w1 ⟨rfl, hb1⟩
    have C1 := HC.out.below hb1
    have HG := Lib.hid (chain HG8.out hb1)
    have HI1 := Lib.hid (HB1.out.below hb1)
    have HI2 := Lib.hid (HB2.out.below hb1)
    have HP := Lib.hid C1
    clear C1 hb1 HB1 HB2 HB3 HG8 HC
    have p0 := HP.out.c 0 rfl
    have p1 := HP.out.c 1 rfl
    have p2 := HP.out.c 2 rfl
    have p3 := HP.out.c 3 rfl
    have p4 := HP.out.c 4 rfl
    have zp := HP.out.1
    have q1 := (HI2.out.at k (by rw [HL2.out]; omega)).1
    rw [← HY.out] at q1
    go_wp2_with fail
    refine bodyPost_ret (v := .tuple #[.int .i64 y, .int .i64 0]) (by simp [results, Try.results14, go_sem] <;> first | rfl | ((repeat' apply And.intro) <;> rfl)) rfl ⟨rfl, HG.out⟩
end Go.Proofs.Ytamajedopofcoaa
